/- The codec seat: plain law: trees of both sides, and rounds enough. -/
import Derived.Test.YtcmphojichgfeaaDoorCD
namespace Go.Proofs.YtcmphojichgfeaaDoor.QC
open Go.RowKit Go.Proofs.YtcmphojichgfeaaDoorW.PrintWords Go.Proofs.YtcmphojichgfeaaDoorW.PrintLast Go.Proofs.YtcmphojichgfeaaDoorW.PrintMore
set_option linter.unusedVariables false
set_option linter.unusedSimpArgs false
/-! ### With rounds enough -/
def Ev {α : Type} (f : Nat → Option α) (r : α) : Prop := ∃ K, ∀ k, K ≤ k → f k = some r
section
variable {α β : Type} {f g : Nat → Option α} {r : α}
theorem Ev.const (h : ∀ k, f k = some r) : Ev f r := ⟨0, fun k _ => h k⟩
theorem Ev.succ (h : ∀ k, f (k + 1) = g k) (hg : Ev g r) : Ev f r := by
  obtain ⟨K, hK⟩ := hg
  refine ⟨K + 1, fun k hk => ?_⟩
  obtain ⟨k, rfl⟩ : ∃ j, k = j + 1 := ⟨k - 1, by omega⟩
  rw [h, hK k (by omega)]
theorem Ev.succ' (h : Ev (fun k => f (k + 1)) r) : Ev f r := Ev.succ (fun _ => rfl) h
theorem Ev.congr (h : ∀ k, f k = g k) (hg : Ev g r) : Ev f r := by
  obtain ⟨K, hK⟩ := hg
  exact ⟨K, fun k hk => (h k).trans (hK k hk)⟩
theorem Ev.bind {f : Nat → Option β} {g : Nat → β → Option α} {x : β} (hf : Ev f x) (hg : Ev (fun k => g k x) r) : Ev (fun k => (f k).bind (g k)) r := by
  obtain ⟨K, hK⟩ := hf
  obtain ⟨L, hL⟩ := hg
  refine ⟨max K L, fun k hk => ?_⟩
  show (f k).bind (g k) = _
  rw [hK k (by omega), Option.bind_some]
  exact hL k (by omega)
theorem Ev.some : Ev (fun _ => Option.some r) r := ⟨0, fun _ _ => rfl⟩
theorem Ev.ex (h : Ev f r) : ∃ k, f k = Option.some r := by
  obtain ⟨K, hK⟩ := h
  exact ⟨K, hK K (Nat.le_refl _)⟩
end
/-! ### Trees of both sides -/
mutual
def toY : S24 → S32
  | ⟨a, b, c, l⟩ => ⟨a, b, c, toYL l⟩
def toYL : List S24 → List S32
  | [] => []
  | x :: l => toY x :: toYL l
end
mutual
def toR : S32 → S24
  | ⟨a, b, c, l⟩ => ⟨a, b, c, toRL l⟩
def toRL : List S32 → List S24
  | [] => []
  | x :: l => toR x :: toRL l
end
theorem toYL_len : ∀ l, (toYL l).length = l.length
  | [] => rfl
  | x :: l => by rw [toYL, List.length_cons, toYL_len l, List.length_cons]
theorem toRL_len : ∀ l, (toRL l).length = l.length
  | [] => rfl
  | x :: l => by rw [toRL, List.length_cons, toRL_len l, List.length_cons]
theorem toYL_get : ∀ (l : List S24) (i : Nat) (h : i < l.length), (toYL l)[i]'(by rw [toYL_len]; exact h) = toY l[i]
  | [], i, h => by simp at h
  | x :: l, 0, h => by simp [toYL]
  | x :: l, i + 1, h => by simp [toYL]; exact toYL_get l i (by simpa using h)
mutual
theorem toY_toR : ∀ x, toY (toR x) = x
  | ⟨a, b, c, l⟩ => by rw [toR, toY, toYL_toRL l]
theorem toYL_toRL : ∀ l, toYL (toRL l) = l
  | [] => rfl
  | x :: l => by rw [toRL, toYL, toY_toR x, toYL_toRL l]
end
theorem size_mem24 {x : S24} {l : List S24} (h : x ∈ l) (a b : Int) (c : ByteArray) : SizeOf.sizeOf x < SizeOf.sizeOf (S24.mk a b c l) := by
  have := List.sizeOf_lt_of_mem h
  simp only [S24.mk.sizeOf_spec]
  omega
theorem size_mem32 {x : S32} {l : List S32} (h : x ∈ l) (a b : Int) (c : ByteArray) : SizeOf.sizeOf x < SizeOf.sizeOf (S32.mk a b c l) := by
  have := List.sizeOf_lt_of_mem h
  simp only [S32.mk.sizeOf_spec]
  omega
theorem rd24 (l : List S24) (i : Nat) (h : i < l.length) : rd_T24 l (i : Int) = l[i] := by
  unfold rd_T24
  rw [Int.toNat_natCast, List.getD_eq_getElem?_getD, List.getElem?_eq_getElem h, Option.getD_some]
theorem rd32 (l : List S32) (i : Nat) (h : i < l.length) : rd_T32 l (i : Int) = l[i] := by
  unfold rd_T32
  rw [Int.toNat_natCast, List.getD_eq_getElem?_getD, List.getElem?_eq_getElem h, Option.getD_some]
theorem w64s (i : Nat) (h : i ≤ 9223372036854775806) : wrap64 ((i : Int) + 1) = ((i + 1 : Nat) : Int) := by unfold wrap64; omega
/-! ### How many values -/
mutual
def nodes : S24 → Nat
  | ⟨_, _, _, l⟩ => 1 + nodesL l
def nodesL : List S24 → Nat
  | [] => 0
  | x :: l => nodes x + nodesL l
end
theorem nodes_eta (x : S24) : nodes x = 1 + nodesL x.f3 := by cases x; rw [nodes]
theorem nodes_pos (x : S24) : 1 ≤ nodes x := by rw [nodes_eta]; omega
theorem nodesL_len : ∀ l, l.length ≤ nodesL l
  | [] => Nat.le_refl _
  | x :: l => by have := nodesL_len l; have := nodes_pos x; rw [nodesL, List.length_cons]; omega
theorem nodesL_mem : ∀ {l : List S24} {x : S24}, x ∈ l → nodes x ≤ nodesL l
  | y :: l, x, h => by
    rw [nodesL]
    rcases List.mem_cons.1 h with rfl | h
    · omega
    · have := nodesL_mem h; omega
/-- Texts are short, and the depth is bounded. -/
def sm : S24 → Nat → Prop
  | ⟨_, _, c, l⟩, 0 => False
  | ⟨_, _, c, l⟩, d + 1 => c.size ≤ 200 ∧ ∀ y ∈ l, sm y d
theorem sm_eta (x : S24) (d : Nat) : sm x (d + 1) ↔ x.f2.size ≤ 200 ∧ ∀ y ∈ x.f3, sm y d := by cases x; rw [sm]
end Go.Proofs.YtcmphojichgfeaaDoor.QC
