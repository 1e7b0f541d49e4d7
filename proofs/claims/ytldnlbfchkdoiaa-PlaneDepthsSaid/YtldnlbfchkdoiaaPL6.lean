/- The plane seat, for every half-space, box, direction and distance Depth answers as the reference does, or with the stated error; for every input, without a condition. -/
import Derived.Test.YtldnlbfchkdoiaaP6
import Derived.Test.YtldnlbfchkdoiaaRows
namespace Go.Proofs.Ytldnlbfchkdoiaa
open Go.Sx
set_option linter.unusedVariables false
set_option linter.unusedSimpArgs false
set_option maxRecDepth 100000
open Go.ChangeShapes Go.WideShapes Go.ChangeAt Go.RowKit
theorem t6 (a : Int) (b : Int) (c : Int) (d : Int) (x0 : Int) (y0 : Int) (z0 : Int) (x1 : Int) (y1 : Int) (z1 : Int) (dir : Int) (most : Int) (Q : List Sc → Prop) : (fnT (cfgOf Try.prog sigs [12, 25, 20, 22, 26] [41, 51] noLoop) 6 Try.f6 (bodyOf Try.f6) ⟨[(iv 4), (iv 6), i1, i1], [b1]⟩ 100).holds Φ [.int a, .int b, .int c, .int d, .int x0, .int y0, .int z0, .int x1, .int y1, .int z1, .int dir, .int most] (resQ Φ Q) =
  (cond awk0
   (cond (cmpI .eql (rVld0 a b c d x0 y0 z0 x1 y1 z1) 0)
    (cond (cmpI .lss dir 0)
     (cond (cmpI .eql (dpt1 a b c d x0 y0 z0 x1 y1 z1 dir most) 6)
      (Q [.bool (cmpI .eql (dpt0 a b c d x0 y0 z0 x1 y1 z1 dir most) 0)])
      (Q [.bool false]))
     (cond (cmpI .lss 5 dir)
      (cond (cmpI .eql (dpt1 a b c d x0 y0 z0 x1 y1 z1 dir most) 6)
       (Q [.bool (cmpI .eql (dpt0 a b c d x0 y0 z0 x1 y1 z1 dir most) 0)])
       (Q [.bool false]))
      (cond (cmpI .lss most 0)
       (cond (cmpI .eql (dpt1 a b c d x0 y0 z0 x1 y1 z1 dir most) 6)
        (Q [.bool (cmpI .eql (dpt0 a b c d x0 y0 z0 x1 y1 z1 dir most) 0)])
        (Q [.bool false]))
       (cond (cmpI .lss 1000000 most)
        (cond (cmpI .eql (dpt1 a b c d x0 y0 z0 x1 y1 z1 dir most) 6)
         (Q [.bool (cmpI .eql (dpt0 a b c d x0 y0 z0 x1 y1 z1 dir most) 0)])
         (Q [.bool false]))
        (cond (rSidP a b c d x0 y0 z0 x1 y1 z1)
        (cond (cmpI .eql (rSid0 a b c d x0 y0 z0 x1 y1 z1) 1)
         (cond (cmpI .eql (dpt1 a b c d x0 y0 z0 x1 y1 z1 dir most) 0)
          (cond (rDptP a b c d x0 y0 z0 x1 y1 z1 dir most)
          (Q [.bool (cmpI .eql (dpt0 a b c d x0 y0 z0 x1 y1 z1 dir most) (rDpt0 a b c d x0 y0 z0 x1 y1 z1 dir most))])
          False)
          (Q [.bool false]))
         (cond (cmpI .eql (dpt1 a b c d x0 y0 z0 x1 y1 z1 dir most) 8)
          (Q [.bool (cmpI .eql (dpt0 a b c d x0 y0 z0 x1 y1 z1 dir most) 0)])
          (Q [.bool false])))
        False)))))
    (cond (cmpI .eql (dpt1 a b c d x0 y0 z0 x1 y1 z1 dir most) (rVld0 a b c d x0 y0 z0 x1 y1 z1))
     (Q [.bool (cmpI .eql (dpt0 a b c d x0 y0 z0 x1 y1 z1 dir most) 0)])
     (Q [.bool false])))
   (Q [.bool false])) := by kernel_rfl

theorem l6 : ∀ l, InRange [(iv 4), (iv 6), i1, i1] l → ∀ W, GG W → Calls Try.prog 6 (packs [(iv 4), (iv 6), i1, i1] l).toArray W fun e w' => e = .returned (.bool true) ∧ Below W.heap.size W w' :=
  law_of [12, 25, 20, 22, 26] [41, 51] noLoop 100 mixed Try.func6 (by kernel_rfl) (forall_cons c12 (forall_cons c25 (forall_cons c20 (forall_cons c22 (forall_cons c26 forall_nil))))) fun l0 hl0 => by
    obtain ⟨a, l1, rfl, r0, hl1⟩ := range_i64 hl0
    obtain ⟨b, l2, rfl, r1, hl2⟩ := range_i64 hl1
    obtain ⟨c, l3, rfl, r2, hl3⟩ := range_i64 hl2
    obtain ⟨d, l4, rfl, r3, hl4⟩ := range_i64 hl3
    obtain ⟨x0, l5, rfl, r4, hl5⟩ := range_i64 hl4
    obtain ⟨y0, l6, rfl, r5, hl6⟩ := range_i64 hl5
    obtain ⟨z0, l7, rfl, r6, hl7⟩ := range_i64 hl6
    obtain ⟨x1, l8, rfl, r7, hl8⟩ := range_i64 hl7
    obtain ⟨y1, l9, rfl, r8, hl9⟩ := range_i64 hl8
    obtain ⟨z1, l10, rfl, r9, hl10⟩ := range_i64 hl9
    obtain ⟨dir, l11, rfl, r10, hl11⟩ := range_i64 hl10
    obtain ⟨most, l12, rfl, r11, hl12⟩ := range_i64 hl11
    cases range_nil hl12
    clear hl12 hl11 hl10 hl9 hl8 hl7 hl6 hl5 hl4 hl3 hl2 hl1 hl0
    show T.holds _ _ _ (resQ Φ fun rs => rs = [.bool true])
    rw [t6]
    have ha : awk0 = true := rfl
    rw [ha]
    simp only [rVld0, ct]
    by_cases h : chk2 a b c d x0 y0 z0 x1 y1 z1 = 0
    · have hP2 : rSidP a b c d x0 y0 z0 x1 y1 z1 = true := by unfold rSidP; rw [okH h, okB h]; rfl
      rw [hP2]
      by_cases g : 0 ≤ dir ∧ dir ≤ 5 ∧ 0 ≤ most ∧ most ≤ 1000000
      · have n1 : ¬ dir < 0 := by omega
        have n2 : ¬ 5 < dir := by omega
        have n3 : ¬ most < 0 := by omega
        have n4 : ¬ 1000000 < most := by omega
        by_cases k : hiE a b c d x0 y0 z0 x1 y1 z1 ≤ 0
        · have hP3 : rDptP a b c d x0 y0 z0 x1 y1 z1 dir most = true := by
            unfold rDptP
            rw [okH h, okB h, decide_eq_true g.1, decide_eq_true g.2.1, decide_eq_true k]
            rfl
          rw [hP3]
          simp [dpt0, dpt1, rDpt0, rSid0, dptErr, sidE, h, g, k, n1, n2, n3, n4, eql_d, lss_d]
        · have s1 : ¬ sidE (loE a b c d x0 y0 z0 x1 y1 z1) (hiE a b c d x0 y0 z0 x1 y1 z1) = 1 := by
            unfold sidE
            rw [if_neg k]
            split <;> omega
          simp [dpt0, dpt1, rSid0, dptErr, h, g, k, n1, n2, n3, n4, s1, eql_d, lss_d]
      · have e : dptErr a b c d x0 y0 z0 x1 y1 z1 dir most = 6 := by unfold dptErr; rw [if_pos h, if_neg g]
        simp only [dpt0, dpt1, e, eql_d, lss_d, h]
        by_cases n1 : dir < 0
        · simp [n1]
        · by_cases n2 : 5 < dir
          · simp [n1, n2]
          · by_cases n3 : most < 0
            · simp [n1, n2, n3]
            · have n4 : 1000000 < most := by omega
              simp [n1, n2, n3, n4]
    · have e : dptErr a b c d x0 y0 z0 x1 y1 z1 dir most = chk2 a b c d x0 y0 z0 x1 y1 z1 := if_neg h
      simp [dpt0, dpt1, e, h, eql_d]
theorem own : ownKnob Try.prog.godebug = none := by kernel_rfl
theorem laidOut : laidOutB Try.prog = true := by kernel_rfl
theorem planeDepths_lifted (os : Os) (started : os.Started) (H : Type) (enc : TypeId × Value → H) :
    ReturnsInHanded {} Try.checked os 6 .any (Rows.planeDepthsSpec.pre6 enc Try.prog Try.f6 Rows.planeDepthsRow.domain false) (Rows.planeDepthsSpec.post enc Try.prog Try.f6 false true false false) :=
  law_lifted (A := Try.checked) (rt := Try.f6.resultTypes[0]!) own laidOut started Try.func6 (by kernel_rfl) rfl (ss := [(iv 4), (iv 6), i1, i1]) (by kernel_rfl) (by kernel_rfl) rfl (by kernel_rfl)
    (fun ds hl => by
        match ds, hl with
        | [d1, d2, d3, d4], _ => exact ⟨rfl, rfl, rfl⟩)
    (ChangeSpec.witness6 (enc := enc) (C := Try.checked) false ⟨#[], #[.agg #[.int .i64 0, .int .i64 0, .int .i64 0, .int .i64 0], .agg #[.int .i64 0, .int .i64 0, .int .i64 0, .int .i64 0, .int .i64 0, .int .i64 0], .int .i64 0, .int .i64 0], []⟩ 8 (by kernel_rfl) (by kernel_rfl) (by kernel_rfl) (by kernel_rfl))
    l6 (fun _ => trivial)
/-- The statement: for every half-space, box, direction and distance Depth answers as the reference does, or with the stated error. -/
theorem planeDepths_holds : Rows.PlaneDepthsSaid :=
  OpenClaim.holds_of_wide 6 Try.f6 rfl rfl rfl rfl rfl rfl rfl ⟨rfl, rfl, rfl, rfl, rfl⟩ rfl rfl rfl rfl rfl (by kernel_rfl) Try.func6 (by kernel_rfl)
    (of_decide_eq_true (by kernel_rfl)) (by unfold Func.isWrapper; rw [if_neg (of_decide_eq_false (by kernel_rfl))]; exact ⟨rfl, rfl⟩)
    (fun os started H enc _ => planeDepths_lifted os started H enc)
end Go.Proofs.Ytldnlbfchkdoiaa
