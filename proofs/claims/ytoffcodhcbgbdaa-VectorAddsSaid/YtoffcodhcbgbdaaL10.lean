/- The vector seat: in the vector seat, for all vectors Check, Add, Sub and Compare answer as the reference does, or with the stated error; for every input, without a condition. -/
import Derived.Test.YtoffcodhcbgbdaaV3
import Derived.Test.YtoffcodhcbgbdaaRows
namespace Go.Proofs.Ytoffcodhcbgbdaa
open Go.Sx
set_option linter.unusedVariables false
set_option linter.unusedSimpArgs false
set_option maxRecDepth 100000
open Go.ChangeShapes Go.WideShapes Go.ChangeAt Go.RowKit
theorem t10 (ax : Int) (ay : Int) (az : Int) (bx : Int) (by' : Int) (bz : Int) (Q : List Sc → Prop) : (fnT (cfgOf Try.prog sigs [12, 30, 31, 32, 14, 23, 33, 35, 34, 27] [41, 51, 53, 52] noLoop) 10 Try.f10 (bodyOf Try.f10) ⟨[(iv 3), (iv 3)], [b1]⟩ 100).holds Φ [.int ax, .int ay, .int az, .int bx, .int by', .int bz] (resQ Φ Q) =
  (cond awk0
   (cond ((cmpI .eql (chk0 ax ay az) 0) == (rIn0 ax ay az))
    (cond (cmpI .eql (chk0 ax ay az) 0)
     (cond (cmpI .eql (cmpV0 ax ay az bx by' bz) (rCmp0 ax ay az bx by' bz))
      (cond (rIn0 ax ay az)
       (cond (rIn0 bx by' bz)
        (cond (rAddP ax ay az bx by' bz)
        (cond (lsum0 (rAdd0 ax ay az bx by' bz) (rAdd1 ax ay az bx by' bz) (rAdd2 ax ay az bx by' bz) (add0 ax ay az bx by' bz) (add1 ax ay az bx by' bz) (add2 ax ay az bx by' bz) (add3 ax ay az bx by' bz))
         (cond (rSubP ax ay az bx by' bz)
         (Q [.bool (lsum0 (rSub0 ax ay az bx by' bz) (rSub1 ax ay az bx by' bz) (rSub2 ax ay az bx by' bz) (sub0 ax ay az bx by' bz) (sub1 ax ay az bx by' bz) (sub2 ax ay az bx by' bz) (sub3 ax ay az bx by' bz))])
         False)
         (Q [.bool false]))
        False)
        (cond (cmpI .eql (add3 ax ay az bx by' bz) 6)
         (cond (cmpI .eql (sub3 ax ay az bx by' bz) 6)
          (cond ((cmpI .eql (add0 ax ay az bx by' bz) 0) && ((cmpI .eql (add1 ax ay az bx by' bz) 0) && (cmpI .eql (add2 ax ay az bx by' bz) 0)))
           (Q [.bool ((cmpI .eql (sub0 ax ay az bx by' bz) 0) && ((cmpI .eql (sub1 ax ay az bx by' bz) 0) && (cmpI .eql (sub2 ax ay az bx by' bz) 0)))])
           (Q [.bool false]))
          (Q [.bool false]))
         (Q [.bool false])))
       (cond (cmpI .eql (add3 ax ay az bx by' bz) 6)
        (cond (cmpI .eql (sub3 ax ay az bx by' bz) 6)
         (cond ((cmpI .eql (add0 ax ay az bx by' bz) 0) && ((cmpI .eql (add1 ax ay az bx by' bz) 0) && (cmpI .eql (add2 ax ay az bx by' bz) 0)))
          (Q [.bool ((cmpI .eql (sub0 ax ay az bx by' bz) 0) && ((cmpI .eql (sub1 ax ay az bx by' bz) 0) && (cmpI .eql (sub2 ax ay az bx by' bz) 0)))])
          (Q [.bool false]))
         (Q [.bool false]))
        (Q [.bool false])))
      (Q [.bool false]))
     (cond (cmpI .eql (chk0 ax ay az) 6)
      (cond (cmpI .eql (cmpV0 ax ay az bx by' bz) (rCmp0 ax ay az bx by' bz))
       (cond (rIn0 ax ay az)
        (cond (rIn0 bx by' bz)
         (cond (rAddP ax ay az bx by' bz)
         (cond (lsum0 (rAdd0 ax ay az bx by' bz) (rAdd1 ax ay az bx by' bz) (rAdd2 ax ay az bx by' bz) (add0 ax ay az bx by' bz) (add1 ax ay az bx by' bz) (add2 ax ay az bx by' bz) (add3 ax ay az bx by' bz))
          (cond (rSubP ax ay az bx by' bz)
          (Q [.bool (lsum0 (rSub0 ax ay az bx by' bz) (rSub1 ax ay az bx by' bz) (rSub2 ax ay az bx by' bz) (sub0 ax ay az bx by' bz) (sub1 ax ay az bx by' bz) (sub2 ax ay az bx by' bz) (sub3 ax ay az bx by' bz))])
          False)
          (Q [.bool false]))
         False)
         (cond (cmpI .eql (add3 ax ay az bx by' bz) 6)
          (cond (cmpI .eql (sub3 ax ay az bx by' bz) 6)
           (cond ((cmpI .eql (add0 ax ay az bx by' bz) 0) && ((cmpI .eql (add1 ax ay az bx by' bz) 0) && (cmpI .eql (add2 ax ay az bx by' bz) 0)))
            (Q [.bool ((cmpI .eql (sub0 ax ay az bx by' bz) 0) && ((cmpI .eql (sub1 ax ay az bx by' bz) 0) && (cmpI .eql (sub2 ax ay az bx by' bz) 0)))])
            (Q [.bool false]))
           (Q [.bool false]))
          (Q [.bool false])))
        (cond (cmpI .eql (add3 ax ay az bx by' bz) 6)
         (cond (cmpI .eql (sub3 ax ay az bx by' bz) 6)
          (cond ((cmpI .eql (add0 ax ay az bx by' bz) 0) && ((cmpI .eql (add1 ax ay az bx by' bz) 0) && (cmpI .eql (add2 ax ay az bx by' bz) 0)))
           (Q [.bool ((cmpI .eql (sub0 ax ay az bx by' bz) 0) && ((cmpI .eql (sub1 ax ay az bx by' bz) 0) && (cmpI .eql (sub2 ax ay az bx by' bz) 0)))])
           (Q [.bool false]))
          (Q [.bool false]))
         (Q [.bool false])))
       (Q [.bool false]))
      (Q [.bool false])))
    (Q [.bool false]))
   (Q [.bool false])) := by kernel_rfl

theorem l10 : ∀ l, InRange [(iv 3), (iv 3)] l → ∀ W, Calls Try.prog 10 (packs [(iv 3), (iv 3)] l).toArray W fun e w' => e = .returned (.bool true) ∧ Below W.heap.size W w' :=
  law_of [12, 30, 31, 32, 14, 23, 33, 35, 34, 27] [41, 51, 53, 52] noLoop 100 mixed Try.func10 (by kernel_rfl) (forall_cons c12 (forall_cons c30 (forall_cons c31 (forall_cons c32 (forall_cons c14 (forall_cons c23 (forall_cons c33 (forall_cons c35 (forall_cons c34 (forall_cons c27 forall_nil)))))))))) fun l0 hl0 => by
    obtain ⟨ax, l1, rfl, r0, hl1⟩ := range_i64 hl0
    obtain ⟨ay, l2, rfl, r1, hl2⟩ := range_i64 hl1
    obtain ⟨az, l3, rfl, r2, hl3⟩ := range_i64 hl2
    obtain ⟨bx, l4, rfl, r3, hl4⟩ := range_i64 hl3
    obtain ⟨by', l5, rfl, r4, hl5⟩ := range_i64 hl4
    obtain ⟨bz, l6, rfl, r5, hl6⟩ := range_i64 hl5
    cases range_nil hl6
    clear hl6 hl5 hl4 hl3 hl2 hl1 hl0
    show T.holds _ _ _ (resQ Φ fun rs => rs = [.bool true])
    rw [t10]
    have ha : awk0 = true := rfl
    rw [ha]
    have hq : rCmp0 ax ay az bx by' bz = cmpV0 ax ay az bx by' bz := rfl
    rw [hq]
    by_cases hb : (in3 ax ay az && in3 bx by' bz) = true
    · have hd := hb
      rw [Bool.and_eq_true] at hd
      obtain ⟨h1, h2⟩ := hd
      have p1 : rSubP ax ay az bx by' bz = true := hb
      have p2 : rAddP ax ay az bx by' bz = true := hb
      have l1 : lsum0 (rAdd0 ax ay az bx by' bz) (rAdd1 ax ay az bx by' bz) (rAdd2 ax ay az bx by' bz) (add0 ax ay az bx by' bz) (add1 ax ay az bx by' bz) (add2 ax ay az bx by' bz) (add3 ax ay az bx by' bz) = true := by
        simp only [lsum0, rAdd0, rAdd1, rAdd2, add0, add1, add2, add3, hb, Bool.true_and]
        by_cases hv : in3 (ax + bx) (ay + by') (az + bz) = true
        · simp [hv]
        · simp [hv]
      have l2 : lsum0 (rSub0 ax ay az bx by' bz) (rSub1 ax ay az bx by' bz) (rSub2 ax ay az bx by' bz) (sub0 ax ay az bx by' bz) (sub1 ax ay az bx by' bz) (sub2 ax ay az bx by' bz) (sub3 ax ay az bx by' bz) = true := by
        simp only [lsum0, rSub0, rSub1, rSub2, sub0, sub1, sub2, sub3, hb, Bool.true_and]
        by_cases hv : in3 (ax - bx) (ay - by') (az - bz) = true
        · simp [hv]
        · simp [hv]
      rw [p1, p2, l1, l2]
      simp only [chk0, rIn0, h1, h2, eql_d]
      simp
    · have hf : (in3 ax ay az && in3 bx by' bz) = false := by simpa using hb
      simp only [add0, add1, add2, add3, sub0, sub1, sub2, sub3, hf, Bool.false_and, chk0, rIn0, eql_d]
      generalize in3 ax ay az = p at hf ⊢
      generalize in3 bx by' bz = q at hf ⊢
      generalize cmpV0 ax ay az bx by' bz = c
      cases p <;> cases q <;> simp_all
theorem own : ownKnob Try.prog.godebug = none := by kernel_rfl
theorem laidOut : laidOutB Try.prog = true := by kernel_rfl
theorem vectorAdds_lifted (os : Os) (started : os.Started) (H : Type) (enc : TypeId × Value → H) :
    ReturnsInHanded {} Try.checked os 10 .any (Rows.vectorAddsSpec.pre6 enc Try.prog Try.f10 Rows.vectorAddsRow.domain false) (Rows.vectorAddsSpec.post enc Try.prog Try.f10 false true false false) :=
  law_lifted (A := Try.checked) (rt := Try.f10.resultTypes[0]!) own laidOut started Try.func10 (by kernel_rfl) rfl (ss := [(iv 3), (iv 3)]) (by kernel_rfl) (by kernel_rfl) rfl (by kernel_rfl)
    (fun ds hl => by
        match ds, hl with
        | [d1, d2], _ => exact ⟨rfl, rfl, rfl⟩)
    (ChangeSpec.witness6 (enc := enc) (C := Try.checked) false ⟨#[], #[.agg #[.int .i64 0, .int .i64 0, .int .i64 0], .agg #[.int .i64 0, .int .i64 0, .int .i64 0]], []⟩ 8 (by kernel_rfl) (by kernel_rfl) (by kernel_rfl) (by kernel_rfl))
    l10
/-- The statement: for all vectors Check, Add, Sub and Compare answer as the reference does, or with the stated error. -/
theorem vectorAdds_holds : Rows.VectorAddsSaid :=
  OpenClaim.holds_of_wide 10 Try.f10 rfl rfl rfl rfl rfl rfl rfl ⟨rfl, rfl, rfl, rfl, rfl⟩ rfl rfl rfl rfl rfl (by kernel_rfl) Try.func10 (by kernel_rfl)
    (of_decide_eq_true (by kernel_rfl)) (by unfold Func.isWrapper; rw [if_neg (of_decide_eq_false (by kernel_rfl))]; exact ⟨rfl, rfl⟩)
    (fun os started H enc _ => vectorAdds_lifted os started H enc)
end Go.Proofs.Ytoffcodhcbgbdaa
