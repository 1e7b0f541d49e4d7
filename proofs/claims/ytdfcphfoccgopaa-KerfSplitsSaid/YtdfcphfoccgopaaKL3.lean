/- The kerf seat, for all boxes and cuts Check, Split and Loss answer as the reference does, or with the stated error; for every input, without a condition. -/
import Derived.Test.YtdfcphfoccgopaaKF3
import Derived.Test.YtdfcphfoccgopaaRows
namespace Go.Proofs.Ytdfcphfoccgopaa
open Go.Sx
set_option linter.unusedVariables false
set_option linter.unusedSimpArgs false
set_option maxRecDepth 100000
open Go.ChangeShapes Go.WideShapes Go.ChangeAt Go.RowKit
theorem t3 (x0 : Int) (y0 : Int) (z0 : Int) (x1 : Int) (y1 : Int) (z1 : Int) (ax : Int) (p : Int) (k : Int) (Q : List Sc → Prop) : (fnT (cfgOf Try.prog sigs [12, 13, 15, 14, 16, 17, 18, 19] [] noLoop) 3 Try.f3 (bodyOf Try.f3) ⟨[(iv 6), (iv 3)], [sb], none, none, none⟩ 100).holds Φ [.int x0, .int y0, .int z0, .int x1, .int y1, .int z1, .int ax, .int p, .int k] (resQ Φ Q) =
  (cond awk0
   (cond (cmpI .eql (chk0 x0 y0 z0 x1 y1 z1 (our0 ax p k) (our1 ax p k) (our2 ax p k)) (rChk0 x0 y0 z0 x1 y1 z1 ax p k))
    (cond (cmpI .eql (spl18 x0 y0 z0 x1 y1 z1 (our0 ax p k) (our1 ax p k) (our2 ax p k)) (rChk0 x0 y0 z0 x1 y1 z1 ax p k))
     (cond (cmpI .eql (los1 x0 y0 z0 x1 y1 z1 (our0 ax p k) (our1 ax p k) (our2 ax p k)) (rChk0 x0 y0 z0 x1 y1 z1 ax p k))
      (cond (cmpI .eql (rChk0 x0 y0 z0 x1 y1 z1 ax p k) 0)
       (cond (rSplP x0 y0 z0 x1 y1 z1 ax p k)
       (cond ((cmpI .eql (spl0 x0 y0 z0 x1 y1 z1 (our0 ax p k) (our1 ax p k) (our2 ax p k)) (rSpl0 x0 y0 z0 x1 y1 z1 ax p k)) && ((cmpI .eql (spl1 x0 y0 z0 x1 y1 z1 (our0 ax p k) (our1 ax p k) (our2 ax p k)) (rSpl1 x0 y0 z0 x1 y1 z1 ax p k)) && ((cmpI .eql (spl2 x0 y0 z0 x1 y1 z1 (our0 ax p k) (our1 ax p k) (our2 ax p k)) (rSpl2 x0 y0 z0 x1 y1 z1 ax p k)) && ((cmpI .eql (spl3 x0 y0 z0 x1 y1 z1 (our0 ax p k) (our1 ax p k) (our2 ax p k)) (rSpl3 x0 y0 z0 x1 y1 z1 ax p k)) && ((cmpI .eql (spl4 x0 y0 z0 x1 y1 z1 (our0 ax p k) (our1 ax p k) (our2 ax p k)) (rSpl4 x0 y0 z0 x1 y1 z1 ax p k)) && (cmpI .eql (spl5 x0 y0 z0 x1 y1 z1 (our0 ax p k) (our1 ax p k) (our2 ax p k)) (rSpl5 x0 y0 z0 x1 y1 z1 ax p k)))))))
        (cond ((cmpI .eql (spl6 x0 y0 z0 x1 y1 z1 (our0 ax p k) (our1 ax p k) (our2 ax p k)) (rSpl6 x0 y0 z0 x1 y1 z1 ax p k)) && ((cmpI .eql (spl7 x0 y0 z0 x1 y1 z1 (our0 ax p k) (our1 ax p k) (our2 ax p k)) (rSpl7 x0 y0 z0 x1 y1 z1 ax p k)) && ((cmpI .eql (spl8 x0 y0 z0 x1 y1 z1 (our0 ax p k) (our1 ax p k) (our2 ax p k)) (rSpl8 x0 y0 z0 x1 y1 z1 ax p k)) && ((cmpI .eql (spl9 x0 y0 z0 x1 y1 z1 (our0 ax p k) (our1 ax p k) (our2 ax p k)) (rSpl9 x0 y0 z0 x1 y1 z1 ax p k)) && ((cmpI .eql (spl10 x0 y0 z0 x1 y1 z1 (our0 ax p k) (our1 ax p k) (our2 ax p k)) (rSpl10 x0 y0 z0 x1 y1 z1 ax p k)) && (cmpI .eql (spl11 x0 y0 z0 x1 y1 z1 (our0 ax p k) (our1 ax p k) (our2 ax p k)) (rSpl11 x0 y0 z0 x1 y1 z1 ax p k)))))))
         (cond ((cmpI .eql (spl12 x0 y0 z0 x1 y1 z1 (our0 ax p k) (our1 ax p k) (our2 ax p k)) (rSpl12 x0 y0 z0 x1 y1 z1 ax p k)) && ((cmpI .eql (spl13 x0 y0 z0 x1 y1 z1 (our0 ax p k) (our1 ax p k) (our2 ax p k)) (rSpl13 x0 y0 z0 x1 y1 z1 ax p k)) && ((cmpI .eql (spl14 x0 y0 z0 x1 y1 z1 (our0 ax p k) (our1 ax p k) (our2 ax p k)) (rSpl14 x0 y0 z0 x1 y1 z1 ax p k)) && ((cmpI .eql (spl15 x0 y0 z0 x1 y1 z1 (our0 ax p k) (our1 ax p k) (our2 ax p k)) (rSpl15 x0 y0 z0 x1 y1 z1 ax p k)) && ((cmpI .eql (spl16 x0 y0 z0 x1 y1 z1 (our0 ax p k) (our1 ax p k) (our2 ax p k)) (rSpl16 x0 y0 z0 x1 y1 z1 ax p k)) && (cmpI .eql (spl17 x0 y0 z0 x1 y1 z1 (our0 ax p k) (our1 ax p k) (our2 ax p k)) (rSpl17 x0 y0 z0 x1 y1 z1 ax p k)))))))
          (cond (rVolP (rSpl6 x0 y0 z0 x1 y1 z1 ax p k) (rSpl7 x0 y0 z0 x1 y1 z1 ax p k) (rSpl8 x0 y0 z0 x1 y1 z1 ax p k) (rSpl9 x0 y0 z0 x1 y1 z1 ax p k) (rSpl10 x0 y0 z0 x1 y1 z1 ax p k) (rSpl11 x0 y0 z0 x1 y1 z1 ax p k))
          (Q [.bool (cmpI .eql (los0 x0 y0 z0 x1 y1 z1 (our0 ax p k) (our1 ax p k) (our2 ax p k)) (rVol0 (rSpl6 x0 y0 z0 x1 y1 z1 ax p k) (rSpl7 x0 y0 z0 x1 y1 z1 ax p k) (rSpl8 x0 y0 z0 x1 y1 z1 ax p k) (rSpl9 x0 y0 z0 x1 y1 z1 ax p k) (rSpl10 x0 y0 z0 x1 y1 z1 ax p k) (rSpl11 x0 y0 z0 x1 y1 z1 ax p k)))])
          False)
          (Q [.bool false]))
         (Q [.bool false]))
        (Q [.bool false]))
       False)
       (cond ((cmpI .eql (spl0 x0 y0 z0 x1 y1 z1 (our0 ax p k) (our1 ax p k) (our2 ax p k)) 0) && ((cmpI .eql (spl1 x0 y0 z0 x1 y1 z1 (our0 ax p k) (our1 ax p k) (our2 ax p k)) 0) && ((cmpI .eql (spl2 x0 y0 z0 x1 y1 z1 (our0 ax p k) (our1 ax p k) (our2 ax p k)) 0) && ((cmpI .eql (spl3 x0 y0 z0 x1 y1 z1 (our0 ax p k) (our1 ax p k) (our2 ax p k)) 0) && ((cmpI .eql (spl4 x0 y0 z0 x1 y1 z1 (our0 ax p k) (our1 ax p k) (our2 ax p k)) 0) && (cmpI .eql (spl5 x0 y0 z0 x1 y1 z1 (our0 ax p k) (our1 ax p k) (our2 ax p k)) 0))))))
        (cond ((cmpI .eql (spl6 x0 y0 z0 x1 y1 z1 (our0 ax p k) (our1 ax p k) (our2 ax p k)) 0) && ((cmpI .eql (spl7 x0 y0 z0 x1 y1 z1 (our0 ax p k) (our1 ax p k) (our2 ax p k)) 0) && ((cmpI .eql (spl8 x0 y0 z0 x1 y1 z1 (our0 ax p k) (our1 ax p k) (our2 ax p k)) 0) && ((cmpI .eql (spl9 x0 y0 z0 x1 y1 z1 (our0 ax p k) (our1 ax p k) (our2 ax p k)) 0) && ((cmpI .eql (spl10 x0 y0 z0 x1 y1 z1 (our0 ax p k) (our1 ax p k) (our2 ax p k)) 0) && (cmpI .eql (spl11 x0 y0 z0 x1 y1 z1 (our0 ax p k) (our1 ax p k) (our2 ax p k)) 0))))))
         (cond ((cmpI .eql (spl12 x0 y0 z0 x1 y1 z1 (our0 ax p k) (our1 ax p k) (our2 ax p k)) 0) && ((cmpI .eql (spl13 x0 y0 z0 x1 y1 z1 (our0 ax p k) (our1 ax p k) (our2 ax p k)) 0) && ((cmpI .eql (spl14 x0 y0 z0 x1 y1 z1 (our0 ax p k) (our1 ax p k) (our2 ax p k)) 0) && ((cmpI .eql (spl15 x0 y0 z0 x1 y1 z1 (our0 ax p k) (our1 ax p k) (our2 ax p k)) 0) && ((cmpI .eql (spl16 x0 y0 z0 x1 y1 z1 (our0 ax p k) (our1 ax p k) (our2 ax p k)) 0) && (cmpI .eql (spl17 x0 y0 z0 x1 y1 z1 (our0 ax p k) (our1 ax p k) (our2 ax p k)) 0))))))
          (Q [.bool (cmpI .eql (los0 x0 y0 z0 x1 y1 z1 (our0 ax p k) (our1 ax p k) (our2 ax p k)) 0)])
          (Q [.bool false]))
         (Q [.bool false]))
        (Q [.bool false])))
      (Q [.bool false]))
     (Q [.bool false]))
    (Q [.bool false]))
   (Q [.bool false])) := by kernel_rfl

theorem l3 : ∀ l, InRange [(iv 6), (iv 3)] l → ∀ W, GG W → Calls Try.prog 3 (packs [(iv 6), (iv 3)] l).toArray W fun e w' => e = .returned (.bool true) ∧ Below W.heap.size W w' :=
  law_of [12, 13, 15, 14, 16, 17, 18, 19] [] noLoop 100 mixed Try.func3 (by kernel_rfl) (forall_cons c12 (forall_cons c13 (forall_cons c15 (forall_cons c14 (forall_cons c16 (forall_cons c17 (forall_cons c18 (forall_cons c19 forall_nil)))))))) fun l0 hl0 => by
    obtain ⟨x0, l1, rfl, r0, hl1⟩ := range_i64 hl0
    obtain ⟨y0, l2, rfl, r1, hl2⟩ := range_i64 hl1
    obtain ⟨z0, l3, rfl, r2, hl3⟩ := range_i64 hl2
    obtain ⟨x1, l4, rfl, r3, hl4⟩ := range_i64 hl3
    obtain ⟨y1, l5, rfl, r4, hl5⟩ := range_i64 hl4
    obtain ⟨z1, l6, rfl, r5, hl6⟩ := range_i64 hl5
    obtain ⟨ax, l7, rfl, r6, hl7⟩ := range_i64 hl6
    obtain ⟨p, l8, rfl, r7, hl8⟩ := range_i64 hl7
    obtain ⟨k, l9, rfl, r8, hl9⟩ := range_i64 hl8
    cases range_nil hl9
    clear hl9 hl8 hl7 hl6 hl5 hl4 hl3 hl2 hl1 hl0
    show T.holds _ _ _ (resQ Φ fun rs => rs = [.bool true])
    rw [t3]
    have ha : awk0 = true := rfl
    rw [ha]
    simp only [our0, our1, our2, chk0, rChk0, spl0, spl1, spl2, spl3, spl4, spl5, spl6, spl7, spl8, spl9, spl10, spl11, spl12, spl13, spl14, spl15, spl16, spl17, spl18, rSpl0, rSpl1, rSpl2, rSpl3, rSpl4, rSpl5, rSpl6, rSpl7, rSpl8, rSpl9, rSpl10, rSpl11, rSpl12, rSpl13, rSpl14, rSpl15, rSpl16, rSpl17, los0, los1, rVol0, eql_d]
    by_cases h : chkC x0 y0 z0 x1 y1 z1 ax p k = 0
    · have hP : rSplP x0 y0 z0 x1 y1 z1 ax p k = true := decide_eq_true h
      have hm : rVolP _ _ _ _ _ _ = true := mid_in h
      rw [hP]
      simp only [h, if_true, decide_true, cond_true, Bool.and_true]
      rw [hm]
      simp
      exact ⟨⟨rfl, rfl, rfl, rfl, rfl, rfl⟩, rfl⟩
    · simp [h]
theorem own : ownKnob Try.prog.godebug = none := by kernel_rfl
theorem laidOut : laidOutB Try.prog = true := by kernel_rfl
theorem kerfSplits_lifted (os : Os) (started : os.Started) (H : Type) (enc : TypeId × Value → H) :
    ReturnsInHanded {} Try.checked os 3 .any (Rows.kerfSplitsSpec.pre6 enc Try.prog Try.f3 Rows.kerfSplitsRow.domain false) (Rows.kerfSplitsSpec.post enc Try.prog Try.f3 false true false false) :=
  law_lifted (A := Try.checked) (rt := Try.f3.resultTypes[0]!) own laidOut started Try.func3 (by kernel_rfl) rfl (ss := [(iv 6), (iv 3)]) (by kernel_rfl) (by kernel_rfl) rfl (by kernel_rfl)
    (fun ds hl => by
        match ds, hl with
        | [d1, d2], _ => exact ⟨rfl, rfl, rfl⟩)
    (ChangeSpec.witness6 (enc := enc) (C := Try.checked) false ⟨#[], #[.agg #[.int .i64 0, .int .i64 0, .int .i64 0, .int .i64 0, .int .i64 0, .int .i64 0], .agg #[.int .i64 0, .int .i64 0, .int .i64 0]], []⟩ 8 (by kernel_rfl) (by kernel_rfl) (by kernel_rfl) (by kernel_rfl))
    l3 (fun _ => trivial)
/-- The statement: for all boxes and cuts Check, Split and Loss answer as the reference does, or with the stated error. -/
theorem kerfSplits_holds : Rows.KerfSplitsSaid :=
  OpenClaim.holds_of_wide 3 Try.f3 rfl rfl rfl rfl rfl rfl rfl ⟨rfl, rfl, rfl, rfl, rfl⟩ rfl rfl rfl rfl rfl (by kernel_rfl) Try.func3 (by kernel_rfl)
    (of_decide_eq_true (by kernel_rfl)) (by unfold Func.isWrapper; rw [if_neg (of_decide_eq_false (by kernel_rfl))]; exact ⟨rfl, rfl⟩)
    (fun os started H enc _ => kerfSplits_lifted os started H enc)
end Go.Proofs.Ytdfcphfoccgopaa
