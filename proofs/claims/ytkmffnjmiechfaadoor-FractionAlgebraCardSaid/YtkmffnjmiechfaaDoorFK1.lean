/- The fraction seat: a walk of cmp.Or. -/
import Derived.Test.YtkmffnjmiechfaaDoorSx16
import Derived.Test.YtkmffnjmiechfaaDoorChecked
import Derived.WalkKit
import Derived.Deep.QuietTactic
import Derived.BigQuiet
namespace Go.Proofs.YtkmffnjmiechfaaDoor
open Go.Sx Go.RowKit
set_option linter.unusedVariables false
set_option linter.unusedSimpArgs false
/-- The first of a list that is not 0. -/
def firstE : List Int → Int
  | [] => 0
  | x :: l => if x = 0 then firstE l else x
theorem firstE_drop : ∀ (l : List Int) (k : Nat), (∀ j, j < k → l.getD j 0 = 0) → k ≤ l.length → firstE l = firstE (l.drop k)
  | l, 0, _, _ => by simp
  | [], k + 1, _, h => by simp at h
  | x :: l, k + 1, h, hk => by
    have h0 := h 0 (by omega)
    simp at h0
    rw [firstE, if_pos h0, List.drop_succ_cons]
    exact firstE_drop l k (fun j hj => by simpa using h (j + 1) (by omega)) (by simpa using hk)
theorem walk75 (l : List Int) (b o cap : Nat) (w : World) (hn : 0 < l.length) (hbig : l.length ≤ 1000) (hc : ∀ (i : Nat) (x : Int), l[i]? = some x → w.cell? ⟨b, o + i, none⟩ = some (.int .i64 x)) :
    Calls Tryd.prog 75 #[.slice (some ⟨b, o, none⟩) l.length cap] w fun e w' => e = .returned (.int .i64 (firstE l)) ∧ w' = w := by
  have HC : Hid (∀ (i : Nat) (x : Int), l[i]? = some x → w.cell? ⟨b, o + i, none⟩ = some (.int .i64 x)) := hc
  clear hc
  go_enter Tryd.func75, Tryd.ntmps75
  go_wp2
  go_loop [8] (fun i => ∃ k : Nat, k ≤ l.length ∧ i = .int .i64 k ∧ Hid (firstE l = firstE (l.drop k))) (fun i => l.length - (intOf i).toNat)
  case atStart => exact ⟨0, Nat.zero_le _, rfl, by simp [Hid]⟩
  case round =>
    obtain ⟨k, hk, rfl, HF⟩ := hrel
    by_cases hlt : k < l.length
    · have hx : l[k]? = some l[k] := List.getElem?_eq_getElem hlt
      have hcell := HC.out k _ hx
      have hd : Hid (l.drop k = l[k] :: l.drop (k + 1)) := List.drop_eq_getElem_cons hlt
      clear hx
      generalize l[k] = x at hcell hd
      by_cases h0 : x = 0
      · subst h0
        go_wp2
        go_round
        case rel => exact ⟨k + 1, by omega, by go_num, by have := HF.out; rw [hd.out, firstE, if_pos rfl] at this; exact this⟩
        case measure => simp [intOf]; omega
      · go_wp2
        go_ret
        have := HF.out
        rw [hd.out, firstE, if_neg h0] at this
        exact ⟨by rw [this]; rfl, rfl⟩
    · go_wp2
      go_ret
      have := HF.out
      rw [List.drop_eq_nil_of_le (by omega)] at this
      exact ⟨by rw [this]; rfl, rfl⟩
end Go.Proofs.YtkmffnjmiechfaaDoor
