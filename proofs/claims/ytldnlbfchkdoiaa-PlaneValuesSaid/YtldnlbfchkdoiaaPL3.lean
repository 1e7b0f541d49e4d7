/- The plane seat, for every half-space and point Check and Value answer as the reference does, or with the stated error; for every input, without a condition. -/
import Derived.Test.YtldnlbfchkdoiaaP5
import Derived.Test.YtldnlbfchkdoiaaRows
namespace Go.Proofs.Ytldnlbfchkdoiaa
open Go.Sx
set_option linter.unusedVariables false
set_option linter.unusedSimpArgs false
set_option maxRecDepth 100000
open Go.ChangeShapes Go.WideShapes Go.ChangeAt Go.RowKit
theorem t3 (a : Int) (b : Int) (c : Int) (d : Int) (x : Int) (y : Int) (z : Int) (Q : List Sc → Prop) : (fnT (cfgOf Try.prog sigs [12, 13, 14, 15, 16, 17] [41, 51] noLoop) 3 Try.f3 (bodyOf Try.f3) ⟨[(iv 4), (iv 3)], [b1]⟩ 100).holds Φ [.int a, .int b, .int c, .int d, .int x, .int y, .int z] (resQ Φ Q) =
  (cond awk0
   (cond (cmpI .eql (chk0 a b c d) (rChk0 a b c d))
    (cond (cmpI .eql (rChk0 a b c d) 0)
     (cond (rIn0 x y z)
      (cond (cmpI .eql (vlu1 a b c d x y z) 0)
       (cond (rValP a b c d x y z)
       (Q [.bool (cmpI .eql (vlu0 a b c d x y z) (rVal0 a b c d x y z))])
       False)
       (Q [.bool false]))
      (cond (cmpI .eql (vlu1 a b c d x y z) 6)
       (Q [.bool (cmpI .eql (vlu0 a b c d x y z) 0)])
       (Q [.bool false])))
     (cond (cmpI .eql (vlu1 a b c d x y z) (rChk0 a b c d))
      (Q [.bool (cmpI .eql (vlu0 a b c d x y z) 0)])
      (Q [.bool false])))
    (Q [.bool false]))
   (Q [.bool false])) := by kernel_rfl

theorem l3 : ∀ l, InRange [(iv 4), (iv 3)] l → ∀ W, Calls Try.prog 3 (packs [(iv 4), (iv 3)] l).toArray W fun e w' => e = .returned (.bool true) ∧ Below W.heap.size W w' :=
  law_of [12, 13, 14, 15, 16, 17] [41, 51] noLoop 100 mixed Try.func3 (by kernel_rfl) (forall_cons c12 (forall_cons c13 (forall_cons c14 (forall_cons c15 (forall_cons c16 (forall_cons c17 forall_nil)))))) fun l0 hl0 => by
    obtain ⟨a, l1, rfl, r0, hl1⟩ := range_i64 hl0
    obtain ⟨b, l2, rfl, r1, hl2⟩ := range_i64 hl1
    obtain ⟨c, l3, rfl, r2, hl3⟩ := range_i64 hl2
    obtain ⟨d, l4, rfl, r3, hl4⟩ := range_i64 hl3
    obtain ⟨x, l5, rfl, r4, hl5⟩ := range_i64 hl4
    obtain ⟨y, l6, rfl, r5, hl6⟩ := range_i64 hl5
    obtain ⟨z, l7, rfl, r6, hl7⟩ := range_i64 hl6
    cases range_nil hl7
    clear hl7 hl6 hl5 hl4 hl3 hl2 hl1 hl0
    show T.holds _ _ _ (resQ Φ fun rs => rs = [.bool true])
    rw [t3]
    have ha : awk0 = true := rfl
    rw [ha]
    simp only [chk0, rChk0, rIn0, vlu0, vlu1, rVal0, ct, T1]
    by_cases h : chkH a b c d = 0
    · by_cases g : in3 x y z = true
      · have hP : rValP a b c d x y z = true := by unfold rValP; rw [(chkH_ok.1 h).1, g]; rfl
        rw [hP]
        simp [h, g, eql_d]
      · simp [h, g, eql_d]
    · simp [h, eql_d]
theorem own : ownKnob Try.prog.godebug = none := by kernel_rfl
theorem laidOut : laidOutB Try.prog = true := by kernel_rfl
theorem planeValues_lifted (os : Os) (started : os.Started) (H : Type) (enc : TypeId × Value → H) :
    ReturnsInHanded {} Try.checked os 3 .any (Rows.planeValuesSpec.pre6 enc Try.prog Try.f3 Rows.planeValuesRow.domain false) (Rows.planeValuesSpec.post enc Try.prog Try.f3 false true false false) :=
  law_lifted (A := Try.checked) (rt := Try.f3.resultTypes[0]!) own laidOut started Try.func3 (by kernel_rfl) rfl (ss := [(iv 4), (iv 3)]) (by kernel_rfl) (by kernel_rfl) rfl (by kernel_rfl)
    (fun ds hl => by
        match ds, hl with
        | [d1, d2], _ => exact ⟨rfl, rfl, rfl⟩)
    (ChangeSpec.witness6 (enc := enc) (C := Try.checked) false ⟨#[], #[.agg #[.int .i64 0, .int .i64 0, .int .i64 0, .int .i64 0], .agg #[.int .i64 0, .int .i64 0, .int .i64 0]], []⟩ 8 (by kernel_rfl) (by kernel_rfl) (by kernel_rfl) (by kernel_rfl))
    l3
/-- The statement: for every half-space and point Check and Value answer as the reference does, or with the stated error. -/
theorem planeValues_holds : Rows.PlaneValuesSaid :=
  OpenClaim.holds_of_wide 3 Try.f3 rfl rfl rfl rfl rfl rfl rfl ⟨rfl, rfl, rfl, rfl, rfl⟩ rfl rfl rfl rfl rfl (by kernel_rfl) Try.func3 (by kernel_rfl)
    (of_decide_eq_true (by kernel_rfl)) (by unfold Func.isWrapper; rw [if_neg (of_decide_eq_false (by kernel_rfl))]; exact ⟨rfl, rfl⟩)
    (fun os started H enc _ => planeValues_lifted os started H enc)
end Go.Proofs.Ytldnlbfchkdoiaa
