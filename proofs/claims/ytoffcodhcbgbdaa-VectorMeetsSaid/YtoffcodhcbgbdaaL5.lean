/- The vector seat: in the vector seat, for all segments Meet answers as the reference does, or with the stated error; for every input, without a condition. -/
import Derived.Test.YtoffcodhcbgbdaaG2
import Derived.Test.YtoffcodhcbgbdaaRows
namespace Go.Proofs.Ytoffcodhcbgbdaa
open Go.Sx
set_option linter.unusedVariables false
set_option linter.unusedSimpArgs false
set_option maxRecDepth 100000
open Go.ChangeShapes Go.WideShapes Go.ChangeAt Go.RowKit
theorem t5 (ax : Int) (ay : Int) (bx : Int) (by' : Int) (cx : Int) (cy : Int) (dx : Int) (dy : Int) (Q : List Sc → Prop) : (fnT (cfgOf Try.prog sigs [12, 21, 18, 22] [41, 51, 53, 52] noLoop) 5 Try.f5 (bodyOf Try.f5) ⟨[(iv 2), (iv 2), (iv 2), (iv 2)], [b1]⟩ 100).holds Φ [.int ax, .int ay, .int bx, .int by', .int cx, .int cy, .int dx, .int dy] (resQ Φ Q) =
  (cond awk0
   (cond (rInP0 ax ay)
    (cond (rInP0 bx by')
     (cond (rInP0 cx cy)
      (cond (rInP0 dx dy)
       (cond (cmpI .eql (met1 ax ay bx by' cx cy dx dy) 0)
        (Q [.bool (cmpI .eql (met0 ax ay bx by' cx cy dx dy) (rMet0 ax ay bx by' cx cy dx dy))])
        (Q [.bool false]))
       (cond (cmpI .eql (met1 ax ay bx by' cx cy dx dy) 6)
        (Q [.bool (cmpI .eql (met0 ax ay bx by' cx cy dx dy) 0)])
        (Q [.bool false])))
      (cond (cmpI .eql (met1 ax ay bx by' cx cy dx dy) 6)
       (Q [.bool (cmpI .eql (met0 ax ay bx by' cx cy dx dy) 0)])
       (Q [.bool false])))
     (cond (cmpI .eql (met1 ax ay bx by' cx cy dx dy) 6)
      (Q [.bool (cmpI .eql (met0 ax ay bx by' cx cy dx dy) 0)])
      (Q [.bool false])))
    (cond (cmpI .eql (met1 ax ay bx by' cx cy dx dy) 6)
     (Q [.bool (cmpI .eql (met0 ax ay bx by' cx cy dx dy) 0)])
     (Q [.bool false])))
   (Q [.bool false])) := by kernel_rfl

theorem l5 : ∀ l, InRange [(iv 2), (iv 2), (iv 2), (iv 2)] l → ∀ W, Calls Try.prog 5 (packs [(iv 2), (iv 2), (iv 2), (iv 2)] l).toArray W fun e w' => e = .returned (.bool true) ∧ Below W.heap.size W w' :=
  law_of [12, 21, 18, 22] [41, 51, 53, 52] noLoop 100 mixed Try.func5 (by kernel_rfl) (forall_cons c12 (forall_cons c21 (forall_cons c18 (forall_cons c22 forall_nil)))) fun l0 hl0 => by
    obtain ⟨ax, l1, rfl, r0, hl1⟩ := range_i64 hl0
    obtain ⟨ay, l2, rfl, r1, hl2⟩ := range_i64 hl1
    obtain ⟨bx, l3, rfl, r2, hl3⟩ := range_i64 hl2
    obtain ⟨by', l4, rfl, r3, hl4⟩ := range_i64 hl3
    obtain ⟨cx, l5, rfl, r4, hl5⟩ := range_i64 hl4
    obtain ⟨cy, l6, rfl, r5, hl6⟩ := range_i64 hl5
    obtain ⟨dx, l7, rfl, r6, hl7⟩ := range_i64 hl6
    obtain ⟨dy, l8, rfl, r7, hl8⟩ := range_i64 hl7
    cases range_nil hl8
    clear hl8 hl7 hl6 hl5 hl4 hl3 hl2 hl1 hl0
    show T.holds _ _ _ (resQ Φ fun rs => rs = [.bool true])
    rw [t5]
    have ha0 : awk0 = true := rfl
    rw [ha0]
    by_cases hb : (in2 ax ay && in2 bx by' && in2 cx cy && in2 dx dy) = true
    · have hd := hb
      simp only [Bool.and_eq_true] at hd
      obtain ⟨⟨⟨h1, h2⟩, h3⟩, h4⟩ := hd
      simp only [met0, met1, if_pos hb, rMet0, meets_eq h1 h2 h3 h4, rInP0, h1, h2, h3, h4, eql_d]
      simp
    · simp only [met0, met1, if_neg hb, rInP0, eql_d]
      generalize in2 ax ay = p at hb ⊢
      generalize in2 bx by' = q at hb ⊢
      generalize in2 cx cy = r at hb ⊢
      generalize in2 dx dy = s at hb ⊢
      cases p <;> cases q <;> cases r <;> cases s <;> simp_all
theorem own : ownKnob Try.prog.godebug = none := by kernel_rfl
theorem laidOut : laidOutB Try.prog = true := by kernel_rfl
theorem vectorMeets_lifted (os : Os) (started : os.Started) (H : Type) (enc : TypeId × Value → H) :
    ReturnsInHanded {} Try.checked os 5 .any (Rows.vectorMeetsSpec.pre6 enc Try.prog Try.f5 Rows.vectorMeetsRow.domain false) (Rows.vectorMeetsSpec.post enc Try.prog Try.f5 false true false false) :=
  law_lifted (A := Try.checked) (rt := Try.f5.resultTypes[0]!) own laidOut started Try.func5 (by kernel_rfl) rfl (ss := [(iv 2), (iv 2), (iv 2), (iv 2)]) (by kernel_rfl) (by kernel_rfl) rfl (by kernel_rfl)
    (fun ds hl => by
        match ds, hl with
        | [d1, d2, d3, d4], _ => exact ⟨rfl, rfl, rfl⟩)
    (ChangeSpec.witness6 (enc := enc) (C := Try.checked) false ⟨#[], #[.agg #[.int .i64 0, .int .i64 0], .agg #[.int .i64 0, .int .i64 0], .agg #[.int .i64 0, .int .i64 0], .agg #[.int .i64 0, .int .i64 0]], []⟩ 8 (by kernel_rfl) (by kernel_rfl) (by kernel_rfl) (by kernel_rfl))
    l5
/-- The statement: for all segments Meet answers as the reference does, or with the stated error. -/
theorem vectorMeets_holds : Rows.VectorMeetsSaid :=
  OpenClaim.holds_of_wide 5 Try.f5 rfl rfl rfl rfl rfl rfl rfl ⟨rfl, rfl, rfl, rfl, rfl⟩ rfl rfl rfl rfl rfl (by kernel_rfl) Try.func5 (by kernel_rfl)
    (of_decide_eq_true (by kernel_rfl)) (by unfold Func.isWrapper; rw [if_neg (of_decide_eq_false (by kernel_rfl))]; exact ⟨rfl, rfl⟩)
    (fun os started H enc _ => vectorMeets_lifted os started H enc)
end Go.Proofs.Ytoffcodhcbgbdaa
