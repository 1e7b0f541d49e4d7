/- The plane seat, for every half-space and box Extremes and Side answer as the reference does, or with the stated error; for every input, without a condition. -/
import Derived.Test.YtldnlbfchkdoiaaP6
import Derived.Test.YtldnlbfchkdoiaaRows
namespace Go.Proofs.Ytldnlbfchkdoiaa
open Go.Sx
set_option linter.unusedVariables false
set_option linter.unusedSimpArgs false
set_option maxRecDepth 100000
open Go.ChangeShapes Go.WideShapes Go.ChangeAt Go.RowKit
theorem t4 (a : Int) (b : Int) (c : Int) (d : Int) (x0 : Int) (y0 : Int) (z0 : Int) (x1 : Int) (y1 : Int) (z1 : Int) (Q : List Sc → Prop) : (fnT (cfgOf Try.prog sigs [12, 18, 19, 20, 21, 22] [41, 51] noLoop) 4 Try.f4 (bodyOf Try.f4) ⟨[(iv 4), (iv 6)], [b1]⟩ 100).holds Φ [.int a, .int b, .int c, .int d, .int x0, .int y0, .int z0, .int x1, .int y1, .int z1] (resQ Φ Q) =
  (cond awk0
   (cond (cmpI .eql (rVld0 a b c d x0 y0 z0 x1 y1 z1) 0)
    (cond (rExtP a b c d x0 y0 z0 x1 y1 z1)
    (cond (cmpI .eql (ext2 a b c d x0 y0 z0 x1 y1 z1) 0)
     (cond (cmpI .eql (sid1 a b c d x0 y0 z0 x1 y1 z1) 0)
      (cond (cmpI .eql (ext0 a b c d x0 y0 z0 x1 y1 z1) (rExt0 a b c d x0 y0 z0 x1 y1 z1))
       (cond (cmpI .eql (ext1 a b c d x0 y0 z0 x1 y1 z1) (rExt1 a b c d x0 y0 z0 x1 y1 z1))
        (cond (rSidP a b c d x0 y0 z0 x1 y1 z1)
        (Q [.bool (cmpI .eql (sid0 a b c d x0 y0 z0 x1 y1 z1) (rSid0 a b c d x0 y0 z0 x1 y1 z1))])
        False)
        (Q [.bool false]))
       (Q [.bool false]))
      (Q [.bool false]))
     (Q [.bool false]))
    False)
    (cond (cmpI .eql (ext2 a b c d x0 y0 z0 x1 y1 z1) (rVld0 a b c d x0 y0 z0 x1 y1 z1))
     (cond (cmpI .eql (sid1 a b c d x0 y0 z0 x1 y1 z1) (rVld0 a b c d x0 y0 z0 x1 y1 z1))
      (cond (cmpI .eql (ext0 a b c d x0 y0 z0 x1 y1 z1) 0)
       (cond (cmpI .eql (ext1 a b c d x0 y0 z0 x1 y1 z1) 0)
        (Q [.bool (cmpI .eql (sid0 a b c d x0 y0 z0 x1 y1 z1) 0)])
        (Q [.bool false]))
       (Q [.bool false]))
      (Q [.bool false]))
     (Q [.bool false])))
   (Q [.bool false])) := by kernel_rfl

theorem l4 : ∀ l, InRange [(iv 4), (iv 6)] l → ∀ W, GG W → Calls Try.prog 4 (packs [(iv 4), (iv 6)] l).toArray W fun e w' => e = .returned (.bool true) ∧ Below W.heap.size W w' :=
  law_of [12, 18, 19, 20, 21, 22] [41, 51] noLoop 100 mixed Try.func4 (by kernel_rfl) (forall_cons c12 (forall_cons c18 (forall_cons c19 (forall_cons c20 (forall_cons c21 (forall_cons c22 forall_nil)))))) fun l0 hl0 => by
    obtain ⟨a, l1, rfl, r0, hl1⟩ := range_i64 hl0
    obtain ⟨b, l2, rfl, r1, hl2⟩ := range_i64 hl1
    obtain ⟨c, l3, rfl, r2, hl3⟩ := range_i64 hl2
    obtain ⟨d, l4, rfl, r3, hl4⟩ := range_i64 hl3
    obtain ⟨x0, l5, rfl, r4, hl5⟩ := range_i64 hl4
    obtain ⟨y0, l6, rfl, r5, hl6⟩ := range_i64 hl5
    obtain ⟨z0, l7, rfl, r6, hl7⟩ := range_i64 hl6
    obtain ⟨x1, l8, rfl, r7, hl8⟩ := range_i64 hl7
    obtain ⟨y1, l9, rfl, r8, hl9⟩ := range_i64 hl8
    obtain ⟨z1, l10, rfl, r9, hl10⟩ := range_i64 hl9
    cases range_nil hl10
    clear hl10 hl9 hl8 hl7 hl6 hl5 hl4 hl3 hl2 hl1 hl0
    show T.holds _ _ _ (resQ Φ fun rs => rs = [.bool true])
    rw [t4]
    have ha : awk0 = true := rfl
    rw [ha]
    simp only [rVld0, ct]
    by_cases h : chk2 a b c d x0 y0 z0 x1 y1 z1 = 0
    · have hP : rExtP a b c d x0 y0 z0 x1 y1 z1 = true := by unfold rExtP; rw [okH h, okB h]; rfl
      have hP2 : rSidP a b c d x0 y0 z0 x1 y1 z1 = true := by unfold rSidP; rw [okH h, okB h]; rfl
      rw [hP, hP2]
      simp [ext0, ext1, ext2, sid0, sid1, rExt0, rExt1, rSid0, h, eql_d]
    · simp [ext0, ext1, ext2, sid0, sid1, h, eql_d]
theorem own : ownKnob Try.prog.godebug = none := by kernel_rfl
theorem laidOut : laidOutB Try.prog = true := by kernel_rfl
theorem planeBoxes_lifted (os : Os) (started : os.Started) (H : Type) (enc : TypeId × Value → H) :
    ReturnsInHanded {} Try.checked os 4 .any (Rows.planeBoxesSpec.pre6 enc Try.prog Try.f4 Rows.planeBoxesRow.domain false) (Rows.planeBoxesSpec.post enc Try.prog Try.f4 false true false false) :=
  law_lifted (A := Try.checked) (rt := Try.f4.resultTypes[0]!) own laidOut started Try.func4 (by kernel_rfl) rfl (ss := [(iv 4), (iv 6)]) (by kernel_rfl) (by kernel_rfl) rfl (by kernel_rfl)
    (fun ds hl => by
        match ds, hl with
        | [d1, d2], _ => exact ⟨rfl, rfl, rfl⟩)
    (ChangeSpec.witness6 (enc := enc) (C := Try.checked) false ⟨#[], #[.agg #[.int .i64 0, .int .i64 0, .int .i64 0, .int .i64 0], .agg #[.int .i64 0, .int .i64 0, .int .i64 0, .int .i64 0, .int .i64 0, .int .i64 0]], []⟩ 8 (by kernel_rfl) (by kernel_rfl) (by kernel_rfl) (by kernel_rfl))
    l4 (fun _ => trivial)
/-- The statement: for every half-space and box Extremes and Side answer as the reference does, or with the stated error. -/
theorem planeBoxes_holds : Rows.PlaneBoxesSaid :=
  OpenClaim.holds_of_wide 4 Try.f4 rfl rfl rfl rfl rfl rfl rfl ⟨rfl, rfl, rfl, rfl, rfl⟩ rfl rfl rfl rfl rfl (by kernel_rfl) Try.func4 (by kernel_rfl)
    (of_decide_eq_true (by kernel_rfl)) (by unfold Func.isWrapper; rw [if_neg (of_decide_eq_false (by kernel_rfl))]; exact ⟨rfl, rfl⟩)
    (fun os started H enc _ => planeBoxes_lifted os started H enc)
end Go.Proofs.Ytldnlbfchkdoiaa
