/- The vector seat: in the vector seat, for all vectors Dot, Cross and Distance answer as the reference does, or with the stated error; for every input, without a condition. -/
import Derived.Test.YtoffcodhcbgbdaaV3
import Derived.Test.YtoffcodhcbgbdaaRows
namespace Go.Proofs.Ytoffcodhcbgbdaa
open Go.Sx
set_option linter.unusedVariables false
set_option linter.unusedSimpArgs false
set_option maxRecDepth 100000
open Go.ChangeShapes Go.WideShapes Go.ChangeAt Go.RowKit
theorem t9 (ax : Int) (ay : Int) (az : Int) (bx : Int) (by' : Int) (bz : Int) (Q : List Sc → Prop) : (fnT (cfgOf Try.prog sigs [12, 24, 25, 26, 14, 27, 28, 29] [41, 51, 53, 52] noLoop) 9 Try.f9 (bodyOf Try.f9) ⟨[(iv 3), (iv 3)], [b1]⟩ 100).holds Φ [.int ax, .int ay, .int az, .int bx, .int by', .int bz] (resQ Φ Q) =
  (cond awk0
   (cond (rIn0 ax ay az)
    (cond (rIn0 bx by' bz)
     (cond (rSubP ax ay az bx by' bz)
     (cond (cmpI .eql (dot1 ax ay az bx by' bz) 0)
      (cond (cmpI .eql (crs3 ax ay az bx by' bz) 0)
       (cond (cmpI .eql (dst1 ax ay az bx by' bz) 0)
        (cond (rDotP ax ay az bx by' bz)
        (cond (cmpI .eql (dot0 ax ay az bx by' bz) (rDot0 ax ay az bx by' bz))
         (cond (rCrsP ax ay az bx by' bz)
         (cond ((cmpI .eql (crs0 ax ay az bx by' bz) (rCrs0 ax ay az bx by' bz)) && ((cmpI .eql (crs1 ax ay az bx by' bz) (rCrs1 ax ay az bx by' bz)) && (cmpI .eql (crs2 ax ay az bx by' bz) (rCrs2 ax ay az bx by' bz))))
          (cond (rDotP (rSub0 ax ay az bx by' bz) (rSub1 ax ay az bx by' bz) (rSub2 ax ay az bx by' bz) (rSub0 ax ay az bx by' bz) (rSub1 ax ay az bx by' bz) (rSub2 ax ay az bx by' bz))
          (Q [.bool (cmpI .eql (dst0 ax ay az bx by' bz) (rDot0 (rSub0 ax ay az bx by' bz) (rSub1 ax ay az bx by' bz) (rSub2 ax ay az bx by' bz) (rSub0 ax ay az bx by' bz) (rSub1 ax ay az bx by' bz) (rSub2 ax ay az bx by' bz)))])
          False)
          (Q [.bool false]))
         False)
         (Q [.bool false]))
        False)
        (Q [.bool false]))
       (Q [.bool false]))
      (Q [.bool false]))
     False)
     (cond (cmpI .eql (dot1 ax ay az bx by' bz) 6)
      (cond (cmpI .eql (crs3 ax ay az bx by' bz) 6)
       (cond (cmpI .eql (dst1 ax ay az bx by' bz) 6)
        (cond (cmpI .eql (dot0 ax ay az bx by' bz) 0)
         (cond ((cmpI .eql (crs0 ax ay az bx by' bz) 0) && ((cmpI .eql (crs1 ax ay az bx by' bz) 0) && (cmpI .eql (crs2 ax ay az bx by' bz) 0)))
          (Q [.bool (cmpI .eql (dst0 ax ay az bx by' bz) 0)])
          (Q [.bool false]))
         (Q [.bool false]))
        (Q [.bool false]))
       (Q [.bool false]))
      (Q [.bool false])))
    (cond (cmpI .eql (dot1 ax ay az bx by' bz) 6)
     (cond (cmpI .eql (crs3 ax ay az bx by' bz) 6)
      (cond (cmpI .eql (dst1 ax ay az bx by' bz) 6)
       (cond (cmpI .eql (dot0 ax ay az bx by' bz) 0)
        (cond ((cmpI .eql (crs0 ax ay az bx by' bz) 0) && ((cmpI .eql (crs1 ax ay az bx by' bz) 0) && (cmpI .eql (crs2 ax ay az bx by' bz) 0)))
         (Q [.bool (cmpI .eql (dst0 ax ay az bx by' bz) 0)])
         (Q [.bool false]))
        (Q [.bool false]))
       (Q [.bool false]))
      (Q [.bool false]))
     (Q [.bool false])))
   (Q [.bool false])) := by kernel_rfl

theorem l9 : ∀ l, InRange [(iv 3), (iv 3)] l → ∀ W, Calls Try.prog 9 (packs [(iv 3), (iv 3)] l).toArray W fun e w' => e = .returned (.bool true) ∧ Below W.heap.size W w' :=
  law_of [12, 24, 25, 26, 14, 27, 28, 29] [41, 51, 53, 52] noLoop 100 mixed Try.func9 (by kernel_rfl) (forall_cons c12 (forall_cons c24 (forall_cons c25 (forall_cons c26 (forall_cons c14 (forall_cons c27 (forall_cons c28 (forall_cons c29 forall_nil)))))))) fun l0 hl0 => by
    obtain ⟨ax, l1, rfl, r0, hl1⟩ := range_i64 hl0
    obtain ⟨ay, l2, rfl, r1, hl2⟩ := range_i64 hl1
    obtain ⟨az, l3, rfl, r2, hl3⟩ := range_i64 hl2
    obtain ⟨bx, l4, rfl, r3, hl4⟩ := range_i64 hl3
    obtain ⟨by', l5, rfl, r4, hl5⟩ := range_i64 hl4
    obtain ⟨bz, l6, rfl, r5, hl6⟩ := range_i64 hl5
    cases range_nil hl6
    clear hl6 hl5 hl4 hl3 hl2 hl1 hl0
    show T.holds _ _ _ (resQ Φ fun rs => rs = [.bool true])
    rw [t9]
    have ha : awk0 = true := rfl
    rw [ha]
    by_cases hb : (in3 ax ay az && in3 bx by' bz) = true
    · have hc := hb
      have hd := hb
      rw [Bool.and_eq_true] at hd
      obtain ⟨h1, h2⟩ := hd
      simp only [in3, Bool.and_eq_true, inC_iff] at hc
      have p1 : rSubP ax ay az bx by' bz = true := hb
      have p2 : rCrsP ax ay az bx by' bz = true := hb
      have p3 : rDotP ax ay az bx by' bz = true := by simp only [rDotP, in4, Bool.and_eq_true, inD_iff]; omega
      have p4 : rDotP (rSub0 ax ay az bx by' bz) (rSub1 ax ay az bx by' bz) (rSub2 ax ay az bx by' bz) (rSub0 ax ay az bx by' bz) (rSub1 ax ay az bx by' bz) (rSub2 ax ay az bx by' bz) = true := by
        simp only [rDotP, rSub0, rSub1, rSub2, in4, Bool.and_eq_true, inD_iff]; omega
      rw [p1, p2, p3, p4]
      simp only [rIn0, h1, h2, dot0, dot1, crs0, crs1, crs2, crs3, dst0, dst1, rDot0, rCrs0, rCrs1, rCrs2, rSub0, rSub1, rSub2, if_pos hb, eql_d, Bool.and_true, if_true]
      simp
    · simp only [dot0, dot1, crs0, crs1, crs2, crs3, dst0, dst1, if_neg hb, rIn0, eql_d]
      generalize in3 ax ay az = p at hb ⊢
      generalize in3 bx by' bz = q at hb ⊢
      cases p <;> cases q <;> simp_all
theorem own : ownKnob Try.prog.godebug = none := by kernel_rfl
theorem laidOut : laidOutB Try.prog = true := by kernel_rfl
theorem vectorProducts_lifted (os : Os) (started : os.Started) (H : Type) (enc : TypeId × Value → H) :
    ReturnsInHanded {} Try.checked os 9 .any (Rows.vectorProductsSpec.pre6 enc Try.prog Try.f9 Rows.vectorProductsRow.domain false) (Rows.vectorProductsSpec.post enc Try.prog Try.f9 false true false false) :=
  law_lifted (A := Try.checked) (rt := Try.f9.resultTypes[0]!) own laidOut started Try.func9 (by kernel_rfl) rfl (ss := [(iv 3), (iv 3)]) (by kernel_rfl) (by kernel_rfl) rfl (by kernel_rfl)
    (fun ds hl => by
        match ds, hl with
        | [d1, d2], _ => exact ⟨rfl, rfl, rfl⟩)
    (ChangeSpec.witness6 (enc := enc) (C := Try.checked) false ⟨#[], #[.agg #[.int .i64 0, .int .i64 0, .int .i64 0], .agg #[.int .i64 0, .int .i64 0, .int .i64 0]], []⟩ 8 (by kernel_rfl) (by kernel_rfl) (by kernel_rfl) (by kernel_rfl))
    l9
/-- The statement: for all vectors Dot, Cross and Distance answer as the reference does, or with the stated error. -/
theorem vectorProducts_holds : Rows.VectorProductsSaid :=
  OpenClaim.holds_of_wide 9 Try.f9 rfl rfl rfl rfl rfl rfl rfl ⟨rfl, rfl, rfl, rfl, rfl⟩ rfl rfl rfl rfl rfl (by kernel_rfl) Try.func9 (by kernel_rfl)
    (of_decide_eq_true (by kernel_rfl)) (by unfold Func.isWrapper; rw [if_neg (of_decide_eq_false (by kernel_rfl))]; exact ⟨rfl, rfl⟩)
    (fun os started H enc _ => vectorProducts_lifted os started H enc)
end Go.Proofs.Ytoffcodhcbgbdaa
