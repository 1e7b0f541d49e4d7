/- The plane seat, for all half-spaces Normal, Equal and Within answer as the reference does, or with the stated error; for every input, without a condition. -/
import Derived.Test.YtldnlbfchkdoiaaP5
import Derived.Test.YtldnlbfchkdoiaaRows
namespace Go.Proofs.Ytldnlbfchkdoiaa
open Go.Sx
set_option linter.unusedVariables false
set_option linter.unusedSimpArgs false
set_option maxRecDepth 100000
open Go.ChangeShapes Go.WideShapes Go.ChangeAt Go.RowKit
theorem t10 (a : Int) (b : Int) (c : Int) (d : Int) (e : Int) (f : Int) (g : Int) (h : Int) (Q : List Sc → Prop) : (fnT (cfgOf Try.prog sigs [12, 28, 29, 30, 15, 31, 32] [41, 51] noLoop) 10 Try.f10 (bodyOf Try.f10) ⟨[(iv 4), (iv 4)], [b1]⟩ 100).holds Φ [.int a, .int b, .int c, .int d, .int e, .int f, .int g, .int h] (resQ Φ Q) =
  (cond awk0
   (cond (cmpI .eql (rChk0 a b c d) 0)
    (cond (cmpI .eql (nrm4 a b c d) 0)
     (cond (rNrmP a b c d)
     (cond ((cmpI .eql (nrm0 a b c d) (rNrm0 a b c d)) && ((cmpI .eql (nrm1 a b c d) (rNrm1 a b c d)) && ((cmpI .eql (nrm2 a b c d) (rNrm2 a b c d)) && (cmpI .eql (nrm3 a b c d) (rNrm3 a b c d)))))
      (cond (cmpI .eql (rChk0 e f g h) 0)
       (cond (cmpI .eql (eql1 a b c d e f g h) 0)
        (cond (cmpI .eql (wth1 a b c d e f g h) 0)
         (cond (rNrmP a b c d)
         (cond (rNrmP e f g h)
         (cond ((eql0 a b c d e f g h) == ((cmpI .eql (rNrm0 a b c d) (rNrm0 e f g h)) && ((cmpI .eql (rNrm1 a b c d) (rNrm1 e f g h)) && ((cmpI .eql (rNrm2 a b c d) (rNrm2 e f g h)) && (cmpI .eql (rNrm3 a b c d) (rNrm3 e f g h))))))
          (cond (rWthP a b c d e f g h)
          (Q [.bool ((wth0 a b c d e f g h) == (rWth0 a b c d e f g h))])
          False)
          (Q [.bool false]))
         False)
         False)
         (Q [.bool false]))
        (Q [.bool false]))
       (cond (cmpI .eql (eql1 a b c d e f g h) (rChk0 e f g h))
        (cond (cmpI .eql (wth1 a b c d e f g h) (rChk0 e f g h))
         (cond (eql0 a b c d e f g h)
          (Q [.bool false])
          (Q [.bool (!(wth0 a b c d e f g h))]))
         (Q [.bool false]))
        (Q [.bool false])))
      (Q [.bool false]))
     False)
     (Q [.bool false]))
    (cond (cmpI .eql (nrm4 a b c d) (rChk0 a b c d))
     (cond (cmpI .eql (eql1 a b c d e f g h) (rChk0 a b c d))
      (cond (cmpI .eql (wth1 a b c d e f g h) (rChk0 a b c d))
       (cond ((cmpI .eql (nrm0 a b c d) 0) && ((cmpI .eql (nrm1 a b c d) 0) && ((cmpI .eql (nrm2 a b c d) 0) && (cmpI .eql (nrm3 a b c d) 0))))
        (cond (eql0 a b c d e f g h)
         (Q [.bool false])
         (Q [.bool (!(wth0 a b c d e f g h))]))
        (Q [.bool false]))
       (Q [.bool false]))
      (Q [.bool false]))
     (Q [.bool false])))
   (Q [.bool false])) := by kernel_rfl

theorem l10 : ∀ l, InRange [(iv 4), (iv 4)] l → ∀ W, Calls Try.prog 10 (packs [(iv 4), (iv 4)] l).toArray W fun e w' => e = .returned (.bool true) ∧ Below W.heap.size W w' :=
  law_of [12, 28, 29, 30, 15, 31, 32] [41, 51] noLoop 100 mixed Try.func10 (by kernel_rfl) (forall_cons c12 (forall_cons c28 (forall_cons c29 (forall_cons c30 (forall_cons c15 (forall_cons c31 (forall_cons c32 forall_nil))))))) fun l0 hl0 => by
    obtain ⟨a, l1, rfl, r0, hl1⟩ := range_i64 hl0
    obtain ⟨b, l2, rfl, r1, hl2⟩ := range_i64 hl1
    obtain ⟨c, l3, rfl, r2, hl3⟩ := range_i64 hl2
    obtain ⟨d, l4, rfl, r3, hl4⟩ := range_i64 hl3
    obtain ⟨e, l5, rfl, r4, hl5⟩ := range_i64 hl4
    obtain ⟨f, l6, rfl, r5, hl6⟩ := range_i64 hl5
    obtain ⟨g, l7, rfl, r6, hl7⟩ := range_i64 hl6
    obtain ⟨h, l8, rfl, r7, hl8⟩ := range_i64 hl7
    cases range_nil hl8
    clear hl8 hl7 hl6 hl5 hl4 hl3 hl2 hl1 hl0
    show T.holds _ _ _ (resQ Φ fun rs => rs = [.bool true])
    rw [t10]
    have ha : awk0 = true := rfl
    rw [ha]
    simp only [rChk0, nrm0, nrm1, nrm2, nrm3, nrm4, rNrm0, rNrm1, rNrm2, rNrm3, eql0, eql1, wth0, wth1, rWth0, ct]
    by_cases u : chkH a b c d = 0
    · have p1 : rNrmP a b c d = true := decide_eq_true u
      rw [p1]
      by_cases v : chkH e f g h = 0
      · have p2 : rNrmP e f g h = true := decide_eq_true v
        have p3 : rWthP a b c d e f g h = true := by unfold rWthP; rw [u, v]; rfl
        have w : chk4 a b c d e f g h = 0 := chk4_ok.2 ⟨u, v⟩
        rw [p2, p3]
        simp [u, v, w, eql_d, Bool.decide_and]
      · have w : chk4 a b c d e f g h = chkH e f g h := if_pos u
        simp [u, v, w, eql_d]
    · have w : chk4 a b c d e f g h = chkH a b c d := if_neg u
      simp [u, w, eql_d]
theorem own : ownKnob Try.prog.godebug = none := by kernel_rfl
theorem laidOut : laidOutB Try.prog = true := by kernel_rfl
theorem planeNormals_lifted (os : Os) (started : os.Started) (H : Type) (enc : TypeId × Value → H) :
    ReturnsInHanded {} Try.checked os 10 .any (Rows.planeNormalsSpec.pre6 enc Try.prog Try.f10 Rows.planeNormalsRow.domain false) (Rows.planeNormalsSpec.post enc Try.prog Try.f10 false true false false) :=
  law_lifted (A := Try.checked) (rt := Try.f10.resultTypes[0]!) own laidOut started Try.func10 (by kernel_rfl) rfl (ss := [(iv 4), (iv 4)]) (by kernel_rfl) (by kernel_rfl) rfl (by kernel_rfl)
    (fun ds hl => by
        match ds, hl with
        | [d1, d2], _ => exact ⟨rfl, rfl, rfl⟩)
    (ChangeSpec.witness6 (enc := enc) (C := Try.checked) false ⟨#[], #[.agg #[.int .i64 0, .int .i64 0, .int .i64 0, .int .i64 0], .agg #[.int .i64 0, .int .i64 0, .int .i64 0, .int .i64 0]], []⟩ 8 (by kernel_rfl) (by kernel_rfl) (by kernel_rfl) (by kernel_rfl))
    l10
/-- The statement: for all half-spaces Normal, Equal and Within answer as the reference does, or with the stated error. -/
theorem planeNormals_holds : Rows.PlaneNormalsSaid :=
  OpenClaim.holds_of_wide 10 Try.f10 rfl rfl rfl rfl rfl rfl rfl ⟨rfl, rfl, rfl, rfl, rfl⟩ rfl rfl rfl rfl rfl (by kernel_rfl) Try.func10 (by kernel_rfl)
    (of_decide_eq_true (by kernel_rfl)) (by unfold Func.isWrapper; rw [if_neg (of_decide_eq_false (by kernel_rfl))]; exact ⟨rfl, rfl⟩)
    (fun os started H enc _ => planeNormals_lifted os started H enc)
end Go.Proofs.Ytldnlbfchkdoiaa
