/- The vector seat: in the vector seat, for all points Turn and On answer as the reference does, or with the stated error; for every input, without a condition. -/
import Derived.Test.YtoffcodhcbgbdaaV3
import Derived.Test.YtoffcodhcbgbdaaRows
namespace Go.Proofs.Ytoffcodhcbgbdaa
open Go.Sx
set_option linter.unusedVariables false
set_option linter.unusedSimpArgs false
set_option maxRecDepth 100000
open Go.ChangeShapes Go.WideShapes Go.ChangeAt Go.RowKit
theorem t4 (ax : Int) (ay : Int) (bx : Int) (by' : Int) (cx : Int) (cy : Int) (Q : List Sc → Prop) : (fnT (cfgOf Try.prog sigs [12, 16, 17, 18, 19, 20] [41, 51, 53, 52] noLoop) 4 Try.f4 (bodyOf Try.f4) ⟨[(iv 2), (iv 2), (iv 2)], [b1]⟩ 100).holds Φ [.int ax, .int ay, .int bx, .int by', .int cx, .int cy] (resQ Φ Q) =
  (cond awk0
   (cond (rInP0 ax ay)
    (cond (rInP0 bx by')
     (cond (rInP0 cx cy)
      (cond (cmpI .eql (tn1 ax ay bx by' cx cy) 0)
       (cond (cmpI .eql (onn1 ax ay bx by' cx cy) 0)
        (cond (cmpI .eql (tn0 ax ay bx by' cx cy) (rTn0 ax ay bx by' cx cy))
         (Q [.bool ((onn0 ax ay bx by' cx cy) == (rOn0 ax ay bx by' cx cy))])
         (Q [.bool false]))
        (Q [.bool false]))
       (Q [.bool false]))
      (cond (cmpI .eql (tn1 ax ay bx by' cx cy) 6)
       (cond (cmpI .eql (onn1 ax ay bx by' cx cy) 6)
        (cond (cmpI .eql (tn0 ax ay bx by' cx cy) 0)
         (Q [.bool (!(onn0 ax ay bx by' cx cy))])
         (Q [.bool false]))
        (Q [.bool false]))
       (Q [.bool false])))
     (cond (cmpI .eql (tn1 ax ay bx by' cx cy) 6)
      (cond (cmpI .eql (onn1 ax ay bx by' cx cy) 6)
       (cond (cmpI .eql (tn0 ax ay bx by' cx cy) 0)
        (Q [.bool (!(onn0 ax ay bx by' cx cy))])
        (Q [.bool false]))
       (Q [.bool false]))
      (Q [.bool false])))
    (cond (cmpI .eql (tn1 ax ay bx by' cx cy) 6)
     (cond (cmpI .eql (onn1 ax ay bx by' cx cy) 6)
      (cond (cmpI .eql (tn0 ax ay bx by' cx cy) 0)
       (Q [.bool (!(onn0 ax ay bx by' cx cy))])
       (Q [.bool false]))
      (Q [.bool false]))
     (Q [.bool false])))
   (Q [.bool false])) := by kernel_rfl

theorem l4 : ∀ l, InRange [(iv 2), (iv 2), (iv 2)] l → ∀ W, Calls Try.prog 4 (packs [(iv 2), (iv 2), (iv 2)] l).toArray W fun e w' => e = .returned (.bool true) ∧ Below W.heap.size W w' :=
  law_of [12, 16, 17, 18, 19, 20] [41, 51, 53, 52] noLoop 100 mixed Try.func4 (by kernel_rfl) (forall_cons c12 (forall_cons c16 (forall_cons c17 (forall_cons c18 (forall_cons c19 (forall_cons c20 forall_nil)))))) fun l0 hl0 => by
    obtain ⟨ax, l1, rfl, r0, hl1⟩ := range_i64 hl0
    obtain ⟨ay, l2, rfl, r1, hl2⟩ := range_i64 hl1
    obtain ⟨bx, l3, rfl, r2, hl3⟩ := range_i64 hl2
    obtain ⟨by', l4, rfl, r3, hl4⟩ := range_i64 hl3
    obtain ⟨cx, l5, rfl, r4, hl5⟩ := range_i64 hl4
    obtain ⟨cy, l6, rfl, r5, hl6⟩ := range_i64 hl5
    cases range_nil hl6
    clear hl6 hl5 hl4 hl3 hl2 hl1 hl0
    show T.holds _ _ _ (resQ Φ fun rs => rs = [.bool true])
    rw [t4]
    have ha : awk0 = true := rfl
    rw [ha]
    simp only [tn0, tn1, onn0, onn1, rTn0, rOn0, rInP0]
    generalize in2 ax ay = p
    generalize in2 bx by' = q
    generalize in2 cx cy = r
    cases p <;> cases q <;> cases r <;> simp [eql_d]
theorem own : ownKnob Try.prog.godebug = none := by kernel_rfl
theorem laidOut : laidOutB Try.prog = true := by kernel_rfl
theorem vectorTurns_lifted (os : Os) (started : os.Started) (H : Type) (enc : TypeId × Value → H) :
    ReturnsInHanded {} Try.checked os 4 .any (Rows.vectorTurnsSpec.pre6 enc Try.prog Try.f4 Rows.vectorTurnsRow.domain false) (Rows.vectorTurnsSpec.post enc Try.prog Try.f4 false true false false) :=
  law_lifted (A := Try.checked) (rt := Try.f4.resultTypes[0]!) own laidOut started Try.func4 (by kernel_rfl) rfl (ss := [(iv 2), (iv 2), (iv 2)]) (by kernel_rfl) (by kernel_rfl) rfl (by kernel_rfl)
    (fun ds hl => by
        match ds, hl with
        | [d1, d2, d3], _ => exact ⟨rfl, rfl, rfl⟩)
    (ChangeSpec.witness6 (enc := enc) (C := Try.checked) false ⟨#[], #[.agg #[.int .i64 0, .int .i64 0], .agg #[.int .i64 0, .int .i64 0], .agg #[.int .i64 0, .int .i64 0]], []⟩ 8 (by kernel_rfl) (by kernel_rfl) (by kernel_rfl) (by kernel_rfl))
    l4
/-- The statement: for all points Turn and On answer as the reference does, or with the stated error. -/
theorem vectorTurns_holds : Rows.VectorTurnsSaid :=
  OpenClaim.holds_of_wide 4 Try.f4 rfl rfl rfl rfl rfl rfl rfl ⟨rfl, rfl, rfl, rfl, rfl⟩ rfl rfl rfl rfl rfl (by kernel_rfl) Try.func4 (by kernel_rfl)
    (of_decide_eq_true (by kernel_rfl)) (by unfold Func.isWrapper; rw [if_neg (of_decide_eq_false (by kernel_rfl))]; exact ⟨rfl, rfl⟩)
    (fun os started H enc _ => vectorTurns_lifted os started H enc)
end Go.Proofs.Ytoffcodhcbgbdaa
