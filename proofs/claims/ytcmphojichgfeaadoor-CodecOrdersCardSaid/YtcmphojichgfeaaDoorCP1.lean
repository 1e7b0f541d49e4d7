/- The codec seat: plain law: the reference's Small, and the values handed from one side to the other. -/
import Derived.Test.YtcmphojichgfeaaDoorCR1
import Derived.Test.YtcmphojichgfeaaDoorCP1a
namespace Go.Proofs.YtcmphojichgfeaaDoor.QC
open Go.RowKit Go.Proofs.YtcmphojichgfeaaDoorW.PrintWords Go.Proofs.YtcmphojichgfeaaDoorW.PrintLast Go.Proofs.YtcmphojichgfeaaDoorW.PrintMore
set_option linter.unusedVariables false
set_option linter.unusedSimpArgs false
/-- Rows are no longer than memory. -/
def okB : S24 → Prop
  | ⟨_, _, _, l⟩ => l.length ≤ 9223372036854775807 ∧ ∀ y ∈ l, okB y
theorem leftE : ∀ (N : Nat) (x : S24), SizeOf.sizeOf x ≤ N → okB x → ∀ (n : Int) (d : Nat), 0 ≤ n → n ≤ 60 → d ≤ 24 →
    ∃ r : Int, Ev (fun k => gangsawref02_left.f k x.f0 x.f1 x.f2 x.f3 n (d : Int)) r ∧ -1 ≤ r ∧ r ≤ 60 ∧ (0 ≤ r → (nodes x : Int) + r = n ∧ sm x d)
  | 0, x, h, _, _, _, _, _, _ => absurd h (by cases x; simp only [S24.mk.sizeOf_spec]; omega)
  | N + 1, ⟨a, b, c, l⟩, h, hb, n, d, hn0, hn, hd => by
    have e1 : wrap64 (n - 1) = n - 1 := by unfold wrap64; omega
    have hT : ∀ k, gangsawref02_left.j0 (k + 1) (n - 1) (d : Int) true a b c l = some (-1) := fun k => by rw [gangsawref02_left.j0, if_pos rfl]
    cases d with
    | zero =>
      refine ⟨-1, Ev.succ (g := fun k => gangsawref02_left.j0 k (n - 1) 0 true a b c l) (fun k => ?_) (Ev.succ (g := fun _ => some (-1)) (fun k => hT k) Ev.some), by omega, by omega, fun h => absurd h (by omega)⟩
      show gangsawref02_left.f (k + 1) a b c l n 0 = _
      rw [gangsawref02_left.f, if_pos rfl, e1]
    | succ d =>
      have hf : ∀ k, gangsawref02_left.f (k + 1) a b c l n ((d + 1 : Nat) : Int) = gangsawref02_left.j0 k (n - 1) ((d + 1 : Nat) : Int) (decide ((c.size : Int) > 200)) a b c l := fun k => by rw [gangsawref02_left.f, if_neg (by omega), e1]
      by_cases hc : (c.size : Int) > 200
      · refine ⟨-1, Ev.succ (g := fun k => gangsawref02_left.j0 k (n - 1) ((d + 1 : Nat) : Int) true a b c l) (fun k => ?_) (Ev.succ (g := fun _ => some (-1)) (fun k => hT k) Ev.some), by omega, by omega, fun h => absurd h (by omega)⟩
        show gangsawref02_left.f (k + 1) a b c l n ((d + 1 : Nat) : Int) = _
        rw [hf, decide_eq_true hc]
      · rw [okB] at hb
        have hl : l.length ≤ 9223372036854775807 := hb.1
        have hmem : ∀ y ∈ l, okB y := hb.2
        have loop : ∀ (m i : Nat) (n : Int), i + m = l.length → -1 ≤ n → n ≤ 60 →
            ∃ r : Int, Ev (fun k => gangsawref02_left.l0 k n ((d + 1 : Nat) : Int) (i : Int) a b c l) r ∧ -1 ≤ r ∧ r ≤ 60 ∧ (0 ≤ r → (nodesL (l.drop i) : Int) + r = n ∧ ∀ y ∈ l.drop i, sm y d) := by
          intro m
          induction m with
          | zero =>
            intro i n hi hn1 hn2
            refine ⟨n, Ev.succ (g := fun _ => some n) (fun k => ?_) Ev.some, hn1, hn2, fun h => ?_⟩
            · show gangsawref02_left.l0 (k + 1) n ((d + 1 : Nat) : Int) (i : Int) a b c l = some n
              rw [gangsawref02_left.l0, if_neg (by omega)]
            · rw [List.drop_eq_nil_of_le (by omega)]
              exact ⟨by simp [nodesL], fun y hy => by cases hy⟩
          | succ m ih =>
            intro i n hi hn1 hn2
            have hlt : i < l.length := by omega
            by_cases h0 : n ≥ 0
            · obtain ⟨r1, hr1, hr2, hr3, hr4⟩ := leftE N l[i] (by have := size_mem24 (List.getElem_mem hlt) a b c; omega) (hmem _ (List.getElem_mem hlt)) n d h0 hn2 (by omega)
              obtain ⟨r, hs1, hs2, hs3, hs4⟩ := ih (i + 1) r1 (by omega) hr2 hr3
              refine ⟨r, Ev.succ (g := fun k => (gangsawref02_left.f k l[i].f0 l[i].f1 l[i].f2 l[i].f3 n (d : Int)).bind fun t => gangsawref02_left.l0 k t ((d + 1 : Nat) : Int) ((i + 1 : Nat) : Int) a b c l) (fun k => ?_) (Ev.bind hr1 hs1), hs2, hs3, fun h => ?_⟩
              · show gangsawref02_left.l0 (k + 1) n ((d + 1 : Nat) : Int) (i : Int) a b c l = _
                rw [gangsawref02_left.l0, if_pos (by omega), if_pos h0, if_pos (by omega), rd24 l i hlt, w64s i (by omega), show wrap64 (((d + 1 : Nat) : Int) - 1) = (d : Int) by unfold wrap64; omega]
              · obtain ⟨q1, q2⟩ := hs4 h
                obtain ⟨q3, q4⟩ := hr4 (by omega)
                rw [List.drop_eq_getElem_cons hlt, nodesL]
                refine ⟨by omega, fun y hy => ?_⟩
                rcases List.mem_cons.1 hy with rfl | hy
                · exact q4
                · exact q2 y hy
            · refine ⟨n, Ev.succ (g := fun _ => some n) (fun k => ?_) Ev.some, hn1, hn2, fun h => absurd h (by omega)⟩
              show gangsawref02_left.l0 (k + 1) n ((d + 1 : Nat) : Int) (i : Int) a b c l = some n
              rw [gangsawref02_left.l0, if_pos (by omega), if_neg h0]
        obtain ⟨r, hr1, hr2, hr3, hr4⟩ := loop l.length 0 (n - 1) (by omega) (by omega) (by omega)
        refine ⟨r, Ev.succ (g := fun k => gangsawref02_left.j0 k (n - 1) ((d + 1 : Nat) : Int) false a b c l) (fun k => ?_) (Ev.succ (g := fun k => gangsawref02_left.l0 k (n - 1) ((d + 1 : Nat) : Int) ((0 : Nat) : Int) a b c l) (fun k => ?_) hr1), hr2, hr3, fun h => ?_⟩
        · show gangsawref02_left.f (k + 1) a b c l n ((d + 1 : Nat) : Int) = _
          rw [hf, decide_eq_false hc]
        · show gangsawref02_left.j0 (k + 1) (n - 1) ((d + 1 : Nat) : Int) false a b c l = _
          rw [gangsawref02_left.j0, if_neg (by simp)]
          rfl
        · obtain ⟨q1, q2⟩ := hr4 h
          simp only [List.drop_zero] at q1 q2
          rw [nodes, sm]
          exact ⟨by omega, by omega, q2⟩
theorem smallE (x : S24) (hx : okB x) (n : Int) (h0 : 0 ≤ n) (h6 : n ≤ 60) : ∃ b : Bool, Ev (fun k => gangsawref02_Small.f k x.f0 x.f1 x.f2 x.f3 n) b ∧ (b = true → (nodes x : Int) ≤ n ∧ sm x 24) := by
  obtain ⟨r, h1, h2, h3, h4⟩ := leftE _ x (Nat.le_refl _) hx n 24 h0 h6 (by omega)
  refine ⟨decide (r ≥ 0), Ev.bind h1 Ev.some, fun h => ?_⟩
  obtain ⟨q1, q2⟩ := h4 (by simpa using h)
  have := of_decide_eq_true h
  exact ⟨by omega, q2⟩
/-! ### yours -/
theorem yoursE : ∀ (N : Nat) (x : S24), SizeOf.sizeOf x ≤ N → nodes x ≤ 1000000 → Ev (fun k => gangsawlaw02_yours.f k x.f0 x.f1 x.f2 x.f3) (x.f0, x.f1, x.f2, toYL x.f3)
  | 0, x, h, _ => absurd h (by cases x; simp only [S24.mk.sizeOf_spec]; omega)
  | N + 1, ⟨a, b, c, l⟩, h, hn => by
    rw [nodes] at hn
    have hll := nodesL_len l
    have loop : ∀ (m i : Nat) (acc : List S32), i + m = l.length → acc.length = i → Ev (fun k => gangsawlaw02_yours.l0 k (i : Int) a b c l a b c acc) (a, b, c, acc ++ toYL (l.drop i)) := by
      intro m
      induction m with
      | zero =>
        intro i acc hi ha
        refine Ev.succ (g := fun _ => some (a, b, c, acc ++ toYL (l.drop i))) (fun k => ?_) Ev.some
        rw [List.drop_eq_nil_of_le (by omega), toYL, List.append_nil]
        show gangsawlaw02_yours.l0 (k + 1) (i : Int) a b c l a b c acc = _
        rw [gangsawlaw02_yours.l0, if_neg (by omega)]
      | succ m ih =>
        intro i acc hi ha
        have hlt : i < l.length := by omega
        have h1 := yoursE N l[i] (by have := size_mem24 (List.getElem_mem hlt) a b c; omega) (by have := nodesL_mem (List.getElem_mem hlt); omega)
        have h2 := ih (i + 1) (acc ++ [toY l[i]]) (by omega) (by simp [ha])
        rw [List.drop_eq_getElem_cons hlt, toYL]
        rw [List.append_assoc, List.singleton_append] at h2
        refine Ev.succ (g := fun k => (gangsawlaw02_yours.f k l[i].f0 l[i].f1 l[i].f2 l[i].f3).bind fun bt => gangsawlaw02_yours.l0 k ((i + 1 : Nat) : Int) a b c l a b c (acc ++ [(⟨bt.1, bt.2.1, bt.2.2.1, bt.2.2.2⟩ : S32)])) (fun k => ?_) (Ev.bind h1 ?_)
        · show gangsawlaw02_yours.l0 (k + 1) (i : Int) a b c l a b c acc = _
          rw [gangsawlaw02_yours.l0, if_pos (by omega), if_pos (by omega), rd24 l i hlt, w64s i (by omega)]
          simp only [if_pos (show acc.length < 2513169434916 by omega)]
        · refine Ev.congr (fun k => ?_) h2
          show gangsawlaw02_yours.l0 k _ a b c l a b c (acc ++ [(⟨l[i].f0, l[i].f1, l[i].f2, toYL l[i].f3⟩ : S32)]) = _
          rw [show toY l[i] = ⟨l[i].f0, l[i].f1, l[i].f2, toYL l[i].f3⟩ by cases l[i]; rw [toY]]
    refine Ev.succ (g := fun k => gangsawlaw02_yours.l0 k ((0 : Nat) : Int) a b c l a b c []) (fun k => ?_) (loop l.length 0 [] (by omega) rfl)
    show gangsawlaw02_yours.f (k + 1) a b c l = _
    rw [gangsawlaw02_yours.f]
    rfl
end Go.Proofs.YtcmphojichgfeaaDoor.QC
