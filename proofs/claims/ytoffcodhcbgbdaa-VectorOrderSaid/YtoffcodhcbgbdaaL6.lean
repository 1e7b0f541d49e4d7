/- The vector seat: in the vector seat, Compare is a total order; for every input, without a condition. -/
import Derived.Test.YtoffcodhcbgbdaaV3
import Derived.Test.YtoffcodhcbgbdaaRows
namespace Go.Proofs.Ytoffcodhcbgbdaa
open Go.Sx
set_option linter.unusedVariables false
set_option linter.unusedSimpArgs false
set_option maxRecDepth 100000
open Go.ChangeShapes Go.WideShapes Go.ChangeAt Go.RowKit
theorem t6 (ax : Int) (ay : Int) (az : Int) (bx : Int) (by' : Int) (bz : Int) (cx : Int) (cy : Int) (cz : Int) (Q : List Sc → Prop) : (fnT (cfgOf Try.prog sigs [12, 23] [41, 51, 53, 52] noLoop) 6 Try.f6 (bodyOf Try.f6) ⟨[(iv 3), (iv 3), (iv 3)], [b1]⟩ 100).holds Φ [.int ax, .int ay, .int az, .int bx, .int by', .int bz, .int cx, .int cy, .int cz] (resQ Φ Q) =
  (cond awk0
   (cond (cmpI .eql (cmpV0 ax ay az bx by' bz) (arI .sub .i64 0 (cmpV0 bx by' bz ax ay az)))
    (cond ((cmpI .eql (cmpV0 ax ay az bx by' bz) 0) == ((cmpI .eql ax bx) && ((cmpI .eql ay by') && (cmpI .eql az bz))))
     (cond (cmpI .lss (cmpV0 ax ay az bx by' bz) (-1))
      (Q [.bool false])
      (cond (cmpI .lss 1 (cmpV0 ax ay az bx by' bz))
       (Q [.bool false])
       (cond (cmpI .lss 0 (cmpV0 ax ay az bx by' bz))
        (Q [.bool true])
        (cond (cmpI .lss 0 (cmpV0 bx by' bz cx cy cz))
         (Q [.bool true])
         (cond (cmpI .lss 0 (cmpV0 ax ay az cx cy cz))
          (Q [.bool false])
          (cond (cmpI .lss (cmpV0 ax ay az cx cy cz) 0)
           (Q [.bool true])
           (cond (cmpI .eql (cmpV0 ax ay az bx by' bz) 0)
            (Q [.bool (cmpI .eql (cmpV0 bx by' bz cx cy cz) 0)])
            (Q [.bool false]))))))))
     (Q [.bool false]))
    (Q [.bool false]))
   (Q [.bool false])) := by kernel_rfl
theorem ng0 : arI .sub .i64 0 0 = 0 := by kernel_rfl
theorem ng1 : arI .sub .i64 0 1 = -1 := by kernel_rfl
theorem ng2 : arI .sub .i64 0 (-1) = 1 := by kernel_rfl
theorem cmp3_cases (ax ay az bx by' bz : Int) : (cmp3 ax ay az bx by' bz = -1 ∧ (ax < bx ∨ ax = bx ∧ (ay < by' ∨ ay = by' ∧ az < bz))) ∨ (cmp3 ax ay az bx by' bz = 0 ∧ (ax = bx ∧ ay = by' ∧ az = bz)) ∨ (cmp3 ax ay az bx by' bz = 1 ∧ (bx < ax ∨ bx = ax ∧ (by' < ay ∨ by' = ay ∧ bz < az))) := by
  unfold cmp3
  repeat' split
  all_goals omega
theorem l6 : ∀ l, InRange [(iv 3), (iv 3), (iv 3)] l → ∀ W, Calls Try.prog 6 (packs [(iv 3), (iv 3), (iv 3)] l).toArray W fun e w' => e = .returned (.bool true) ∧ Below W.heap.size W w' :=
  law_of [12, 23] [41, 51, 53, 52] noLoop 100 mixed Try.func6 (by kernel_rfl) (forall_cons c12 (forall_cons c23 forall_nil)) fun l0 hl0 => by
    obtain ⟨ax, l1, rfl, r0, hl1⟩ := range_i64 hl0
    obtain ⟨ay, l2, rfl, r1, hl2⟩ := range_i64 hl1
    obtain ⟨az, l3, rfl, r2, hl3⟩ := range_i64 hl2
    obtain ⟨bx, l4, rfl, r3, hl4⟩ := range_i64 hl3
    obtain ⟨by', l5, rfl, r4, hl5⟩ := range_i64 hl4
    obtain ⟨bz, l6, rfl, r5, hl6⟩ := range_i64 hl5
    obtain ⟨cx, l7, rfl, r6, hl7⟩ := range_i64 hl6
    obtain ⟨cy, l8, rfl, r7, hl8⟩ := range_i64 hl7
    obtain ⟨cz, l9, rfl, r8, hl9⟩ := range_i64 hl8
    cases range_nil hl9
    clear hl9 hl8 hl7 hl6 hl5 hl4 hl3 hl2 hl1 hl0
    show T.holds _ _ _ (resQ Φ fun rs => rs = [.bool true])
    rw [t6]
    have ha : awk0 = true := rfl
    rw [ha]
    simp only [cmpV0]
    rcases cmp3_cases ax ay az bx by' bz with ⟨e1, f1⟩ | ⟨e1, f1⟩ | ⟨e1, f1⟩ <;> rcases cmp3_cases bx by' bz ax ay az with ⟨e2, f2⟩ | ⟨e2, f2⟩ | ⟨e2, f2⟩ <;> (try (exfalso; omega)) <;>
      rcases cmp3_cases bx by' bz cx cy cz with ⟨e3, f3⟩ | ⟨e3, f3⟩ | ⟨e3, f3⟩ <;> rcases cmp3_cases ax ay az cx cy cz with ⟨e4, f4⟩ | ⟨e4, f4⟩ | ⟨e4, f4⟩ <;> (try (exfalso; omega)) <;>
      (rw [e1, e2, e3, e4]
       have g : (cmpI .eql ax bx && (cmpI .eql ay by' && cmpI .eql az bz)) = decide (ax = bx ∧ ay = by' ∧ az = bz) := by simp only [eql_d, Bool.decide_and]
       rw [g]
       first
       | rw [decide_eq_true f1]; simp [ng0, ng1, ng2, eql_d, lss_d]; done
       | rw [decide_eq_false (by omega)]; simp [ng0, ng1, ng2, eql_d, lss_d]; done)
theorem own : ownKnob Try.prog.godebug = none := by kernel_rfl
theorem laidOut : laidOutB Try.prog = true := by kernel_rfl
theorem vectorOrder_lifted (os : Os) (started : os.Started) (H : Type) (enc : TypeId × Value → H) :
    ReturnsInHanded {} Try.checked os 6 .any (Rows.vectorOrderSpec.pre6 enc Try.prog Try.f6 Rows.vectorOrderRow.domain false) (Rows.vectorOrderSpec.post enc Try.prog Try.f6 false true false false) :=
  law_lifted (A := Try.checked) (rt := Try.f6.resultTypes[0]!) own laidOut started Try.func6 (by kernel_rfl) rfl (ss := [(iv 3), (iv 3), (iv 3)]) (by kernel_rfl) (by kernel_rfl) rfl (by kernel_rfl)
    (fun ds hl => by
        match ds, hl with
        | [d1, d2, d3], _ => exact ⟨rfl, rfl, rfl⟩)
    (ChangeSpec.witness6 (enc := enc) (C := Try.checked) false ⟨#[], #[.agg #[.int .i64 0, .int .i64 0, .int .i64 0], .agg #[.int .i64 0, .int .i64 0, .int .i64 0], .agg #[.int .i64 0, .int .i64 0, .int .i64 0]], []⟩ 8 (by kernel_rfl) (by kernel_rfl) (by kernel_rfl) (by kernel_rfl))
    l6
/-- The statement: Compare is a total order. -/
theorem vectorOrder_holds : Rows.VectorOrderSaid :=
  OpenClaim.holds_of_wide 6 Try.f6 rfl rfl rfl rfl rfl rfl rfl ⟨rfl, rfl, rfl, rfl, rfl⟩ rfl rfl rfl rfl rfl (by kernel_rfl) Try.func6 (by kernel_rfl)
    (of_decide_eq_true (by kernel_rfl)) (by unfold Func.isWrapper; rw [if_neg (of_decide_eq_false (by kernel_rfl))]; exact ⟨rfl, rfl⟩)
    (fun os started H enc _ => vectorOrder_lifted os started H enc)
end Go.Proofs.Ytoffcodhcbgbdaa
