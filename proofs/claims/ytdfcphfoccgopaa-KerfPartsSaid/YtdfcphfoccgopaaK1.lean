/- The seat of chapter 23: walks of two small functions. -/
import Derived.Test.YtdfcphfoccgopaaSx16
import Derived.Test.YtdfcphfoccgopaaChecked
import Derived.WalkKit
import Derived.Deep.QuietTactic
import Derived.BigQuiet
namespace Go.Proofs.Ytdfcphfoccgopaa
open Go.Sx Go.RowKit
set_option linter.unusedVariables false
set_option linter.unusedSimpArgs false
/-- The first of a list that is not 0. -/
def firstE : List Int → Int
  | [] => 0
  | x :: l => if x = 0 then firstE l else x
theorem firstE_drop : ∀ (l : List Int) (k : Nat), (∀ j, j < k → l.getD j 0 = 0) → k ≤ l.length → firstE l = firstE (l.drop k)
  | l, 0, _, _ => by simp
  | [], k + 1, _, h => by simp at h
  | x :: l, k + 1, h, hk => by
    have h0 := h 0 (by omega)
    simp at h0
    rw [firstE, if_pos h0, List.drop_succ_cons]
    exact firstE_drop l k (fun j hj => by simpa using h (j + 1) (by omega)) (by simpa using hk)
theorem walk55_0 (b o : Nat) (w : World) : Calls Try.prog 55 #[.pointer (some ⟨b, o, none⟩), .int .i64 0] w fun e w' => e = .returned (.pointer (some ⟨b, o, none⟩)) ∧ ∃ n, w' = w.drewN n := by
  have u90 : Try.prog.underlying 90 = some (.array 3 83) := by kernel_rfl
  have a83 : ∀ w, (isAgg 83).run Try.prog w = .ok false w := fun w => aggP_sound (by kernel_rfl) w
  have s83 : ∀ w, (sizeOf 83).run Try.prog w = .ok 1 w := fun w => sizeP_sound (by kernel_rfl) w
  go_enter Try.func55, Try.ntmps55
  go_wp2
  refine wp_region_quiet_lit (by kernel_rfl) (by kernel_rfl) ?_
  repeat (any_goals (first | go_big_quiet_step (fail) | quiet_step (fail)))
  refine wpQuiet_step (fun K hK => ?_)
  rw [if_pos (by rfl)]
  refine ⟨.pointer (some ⟨b, o, none⟩), fun w1 _ => ?_, hK _ ?_⟩
  · unfold Oper.quietAt
    simp [execOp, Instr.index, run_underlying u90, asIntOf, part, a83, s83, Act.eval, Oper.quietUpon]
  · clear hK K
    repeat (any_goals (first | go_big_quiet_step (fail) | quiet_step (fail)))
    all_goals (refine wpQuiet_nil ?_; intro _ hw'; obtain ⟨nq, hw''⟩ := hw'; subst hw'')
    go_wp2
    go_ret
    exact ⟨rfl, _, rfl⟩
theorem walk55_1 (b o : Nat) (w : World) : Calls Try.prog 55 #[.pointer (some ⟨b, o, none⟩), .int .i64 1] w fun e w' => e = .returned (.pointer (some ⟨b, o + 1, none⟩)) ∧ ∃ n, w' = w.drewN n := by
  have u90 : Try.prog.underlying 90 = some (.array 3 83) := by kernel_rfl
  have a83 : ∀ w, (isAgg 83).run Try.prog w = .ok false w := fun w => aggP_sound (by kernel_rfl) w
  have s83 : ∀ w, (sizeOf 83).run Try.prog w = .ok 1 w := fun w => sizeP_sound (by kernel_rfl) w
  go_enter Try.func55, Try.ntmps55
  go_wp2
  refine wp_region_quiet_lit (by kernel_rfl) (by kernel_rfl) ?_
  repeat (any_goals (first | go_big_quiet_step (fail) | quiet_step (fail)))
  refine wpQuiet_step (fun K hK => ?_)
  rw [if_pos (by rfl)]
  refine ⟨.pointer (some ⟨b, o + 1, none⟩), fun w1 _ => ?_, hK _ ?_⟩
  · unfold Oper.quietAt
    simp [execOp, Instr.index, run_underlying u90, asIntOf, part, a83, s83, Act.eval, Oper.quietUpon]
  · clear hK K
    repeat (any_goals (first | go_big_quiet_step (fail) | quiet_step (fail)))
    all_goals (refine wpQuiet_nil ?_; intro _ hw'; obtain ⟨nq, hw''⟩ := hw'; subst hw'')
    go_wp2
    go_ret
    exact ⟨rfl, _, rfl⟩
theorem walk55_2 (b o : Nat) (w : World) : Calls Try.prog 55 #[.pointer (some ⟨b, o, none⟩), .int .i64 2] w fun e w' => e = .returned (.pointer (some ⟨b, o + 2, none⟩)) ∧ ∃ n, w' = w.drewN n := by
  have u90 : Try.prog.underlying 90 = some (.array 3 83) := by kernel_rfl
  have a83 : ∀ w, (isAgg 83).run Try.prog w = .ok false w := fun w => aggP_sound (by kernel_rfl) w
  have s83 : ∀ w, (sizeOf 83).run Try.prog w = .ok 1 w := fun w => sizeP_sound (by kernel_rfl) w
  go_enter Try.func55, Try.ntmps55
  go_wp2
  refine wp_region_quiet_lit (by kernel_rfl) (by kernel_rfl) ?_
  repeat (any_goals (first | go_big_quiet_step (fail) | quiet_step (fail)))
  refine wpQuiet_step (fun K hK => ?_)
  rw [if_pos (by rfl)]
  refine ⟨.pointer (some ⟨b, o + 2, none⟩), fun w1 _ => ?_, hK _ ?_⟩
  · unfold Oper.quietAt
    simp [execOp, Instr.index, run_underlying u90, asIntOf, part, a83, s83, Act.eval, Oper.quietUpon]
  · clear hK K
    repeat (any_goals (first | go_big_quiet_step (fail) | quiet_step (fail)))
    all_goals (refine wpQuiet_nil ?_; intro _ hw'; obtain ⟨nq, hw''⟩ := hw'; subst hw'')
    go_wp2
    go_ret
    exact ⟨rfl, _, rfl⟩
theorem drewN_below (w : World) (n : Nat) : Below w.heap.size w (w.drewN n) := ⟨rfl, rfl, rfl, Nat.le_refl _, fun _ _ => rfl⟩
theorem walk55 (b o : Nat) (i : Int) (w : World) (h0 : 0 ≤ i) (h1 : i < 3) : Calls Try.prog 55 #[.pointer (some ⟨b, o, none⟩), .int .i64 i] w fun e w' => e = .returned (.pointer (some ⟨b, o + i.toNat, none⟩)) ∧ Below w.heap.size w w' := by
  have : i = 0 ∨ i = 1 ∨ i = 2 := by omega
  rcases this with rfl | rfl | rfl
  · exact (walk55_0 b o w).mono fun e w' ⟨he, n, hw⟩ => ⟨he, hw ▸ drewN_below w n⟩
  · exact (walk55_1 b o w).mono fun e w' ⟨he, n, hw⟩ => ⟨he, hw ▸ drewN_below w n⟩
  · exact (walk55_2 b o w).mono fun e w' ⟨he, n, hw⟩ => ⟨he, hw ▸ drewN_below w n⟩
theorem walk45 (l : List Int) (b o cap : Nat) (w : World) (hn : 0 < l.length) (hbig : l.length ≤ 1000) (hc : ∀ (i : Nat) (x : Int), l[i]? = some x → w.cell? ⟨b, o + i, none⟩ = some (.int .i64 x)) :
    Calls Try.prog 45 #[.slice (some ⟨b, o, none⟩) l.length cap] w fun e w' => e = .returned (.int .i64 (firstE l)) ∧ w' = w := by
  have HC : Hid (∀ (i : Nat) (x : Int), l[i]? = some x → w.cell? ⟨b, o + i, none⟩ = some (.int .i64 x)) := hc
  clear hc
  go_enter Try.func45, Try.ntmps45
  go_wp2
  go_loop [7] (fun i => ∃ k : Nat, k ≤ l.length ∧ i = .int .i64 k ∧ Hid (firstE l = firstE (l.drop k))) (fun i => l.length - (intOf i).toNat)
  case atStart => exact ⟨0, Nat.zero_le _, rfl, by simp [Hid]⟩
  case round =>
    obtain ⟨k, hk, rfl, HF⟩ := hrel
    by_cases hlt : k < l.length
    · have hx : l[k]? = some l[k] := List.getElem?_eq_getElem hlt
      have hcell := HC.out k _ hx
      have hd : Hid (l.drop k = l[k] :: l.drop (k + 1)) := List.drop_eq_getElem_cons hlt
      clear hx
      generalize l[k] = x at hcell hd
      by_cases h0 : x = 0
      · subst h0
        go_wp2
        go_round
        case rel => exact ⟨k + 1, by omega, by go_num, by have := HF.out; rw [hd.out, firstE, if_pos rfl] at this; exact this⟩
        case measure => simp [intOf]; omega
      · go_wp2
        go_ret
        have := HF.out
        rw [hd.out, firstE, if_neg h0] at this
        exact ⟨by rw [this]; rfl, rfl⟩
    · go_wp2
      go_ret
      have := HF.out
      rw [List.drop_eq_nil_of_le (by omega)] at this
      exact ⟨by rw [this]; rfl, rfl⟩
end Go.Proofs.Ytdfcphfoccgopaa
