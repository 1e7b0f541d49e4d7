/- The kerf seat, for all boxes and axes Join answers as the reference does; for every input, without a condition. -/
import Derived.Test.YtdfcphfoccgopaaKF3
import Derived.Test.YtdfcphfoccgopaaRows
namespace Go.Proofs.Ytdfcphfoccgopaa
open Go.Sx
set_option linter.unusedVariables false
set_option linter.unusedSimpArgs false
set_option maxRecDepth 100000
open Go.ChangeShapes Go.WideShapes Go.ChangeAt Go.RowKit
theorem t4 (x0 : Int) (y0 : Int) (z0 : Int) (x1 : Int) (y1 : Int) (z1 : Int) (a0 : Int) (b0 : Int) (c0 : Int) (a1 : Int) (b1 : Int) (c1 : Int) (ax : Int) (Q : List Sc → Prop) : (fnT (cfgOf Try.prog sigs [12, 20, 21, 15] [] noLoop) 4 Try.f4 (bodyOf Try.f4) ⟨[(iv 6), (iv 6), i1], [sb], none, none, none⟩ 100).holds Φ [.int x0, .int y0, .int z0, .int x1, .int y1, .int z1, .int a0, .int b0, .int c0, .int a1, .int b1, .int c1, .int ax] (resQ Φ Q) =
  (cond awk0
   (cond ((cmpI .eql (joi0 x0 y0 z0 x1 y1 z1 a0 b0 c0 a1 b1 c1 ax) (rJoi0 x0 y0 z0 x1 y1 z1 a0 b0 c0 a1 b1 c1 ax)) && ((cmpI .eql (joi1 x0 y0 z0 x1 y1 z1 a0 b0 c0 a1 b1 c1 ax) (rJoi1 x0 y0 z0 x1 y1 z1 a0 b0 c0 a1 b1 c1 ax)) && ((cmpI .eql (joi2 x0 y0 z0 x1 y1 z1 a0 b0 c0 a1 b1 c1 ax) (rJoi2 x0 y0 z0 x1 y1 z1 a0 b0 c0 a1 b1 c1 ax)) && ((cmpI .eql (joi3 x0 y0 z0 x1 y1 z1 a0 b0 c0 a1 b1 c1 ax) (rJoi3 x0 y0 z0 x1 y1 z1 a0 b0 c0 a1 b1 c1 ax)) && ((cmpI .eql (joi4 x0 y0 z0 x1 y1 z1 a0 b0 c0 a1 b1 c1 ax) (rJoi4 x0 y0 z0 x1 y1 z1 a0 b0 c0 a1 b1 c1 ax)) && (cmpI .eql (joi5 x0 y0 z0 x1 y1 z1 a0 b0 c0 a1 b1 c1 ax) (rJoi5 x0 y0 z0 x1 y1 z1 a0 b0 c0 a1 b1 c1 ax)))))))
    (cond ((cmpI .eql (joi6 x0 y0 z0 x1 y1 z1 a0 b0 c0 a1 b1 c1 ax) (our0 (rJoi6 x0 y0 z0 x1 y1 z1 a0 b0 c0 a1 b1 c1 ax) (rJoi7 x0 y0 z0 x1 y1 z1 a0 b0 c0 a1 b1 c1 ax) (rJoi8 x0 y0 z0 x1 y1 z1 a0 b0 c0 a1 b1 c1 ax))) && ((cmpI .eql (joi7 x0 y0 z0 x1 y1 z1 a0 b0 c0 a1 b1 c1 ax) (our1 (rJoi6 x0 y0 z0 x1 y1 z1 a0 b0 c0 a1 b1 c1 ax) (rJoi7 x0 y0 z0 x1 y1 z1 a0 b0 c0 a1 b1 c1 ax) (rJoi8 x0 y0 z0 x1 y1 z1 a0 b0 c0 a1 b1 c1 ax))) && (cmpI .eql (joi8 x0 y0 z0 x1 y1 z1 a0 b0 c0 a1 b1 c1 ax) (our2 (rJoi6 x0 y0 z0 x1 y1 z1 a0 b0 c0 a1 b1 c1 ax) (rJoi7 x0 y0 z0 x1 y1 z1 a0 b0 c0 a1 b1 c1 ax) (rJoi8 x0 y0 z0 x1 y1 z1 a0 b0 c0 a1 b1 c1 ax)))))
     (Q [.bool (cmpI .eql (joi9 x0 y0 z0 x1 y1 z1 a0 b0 c0 a1 b1 c1 ax) (rJoi9 x0 y0 z0 x1 y1 z1 a0 b0 c0 a1 b1 c1 ax))])
     (Q [.bool false]))
    (Q [.bool false]))
   (Q [.bool false])) := by kernel_rfl

theorem l4 : ∀ l, InRange [(iv 6), (iv 6), i1] l → ∀ W, GG W → Calls Try.prog 4 (packs [(iv 6), (iv 6), i1] l).toArray W fun e w' => e = .returned (.bool true) ∧ Below W.heap.size W w' :=
  law_of [12, 20, 21, 15] [] noLoop 100 mixed Try.func4 (by kernel_rfl) (forall_cons c12 (forall_cons c20 (forall_cons c21 (forall_cons c15 forall_nil)))) fun l0 hl0 => by
    obtain ⟨x0, l1, rfl, r0, hl1⟩ := range_i64 hl0
    obtain ⟨y0, l2, rfl, r1, hl2⟩ := range_i64 hl1
    obtain ⟨z0, l3, rfl, r2, hl3⟩ := range_i64 hl2
    obtain ⟨x1, l4, rfl, r3, hl4⟩ := range_i64 hl3
    obtain ⟨y1, l5, rfl, r4, hl5⟩ := range_i64 hl4
    obtain ⟨z1, l6, rfl, r5, hl6⟩ := range_i64 hl5
    obtain ⟨a0, l7, rfl, r6, hl7⟩ := range_i64 hl6
    obtain ⟨b0, l8, rfl, r7, hl8⟩ := range_i64 hl7
    obtain ⟨c0, l9, rfl, r8, hl9⟩ := range_i64 hl8
    obtain ⟨a1, l10, rfl, r9, hl10⟩ := range_i64 hl9
    obtain ⟨b1, l11, rfl, r10, hl11⟩ := range_i64 hl10
    obtain ⟨c1, l12, rfl, r11, hl12⟩ := range_i64 hl11
    obtain ⟨ax, l13, rfl, r12, hl13⟩ := range_i64 hl12
    cases range_nil hl13
    clear hl13 hl12 hl11 hl10 hl9 hl8 hl7 hl6 hl5 hl4 hl3 hl2 hl1 hl0
    show T.holds _ _ _ (resQ Φ fun rs => rs = [.bool true])
    rw [t4]
    have ha : awk0 = true := rfl
    rw [ha]
    simp only [our0, our1, our2, joi0, joi1, joi2, joi3, joi4, joi5, joi6, joi7, joi8, joi9, rJoi0, rJoi1, rJoi2, rJoi3, rJoi4, rJoi5, rJoi6, rJoi7, rJoi8, rJoi9, eql_d]
    simp
theorem own : ownKnob Try.prog.godebug = none := by kernel_rfl
theorem laidOut : laidOutB Try.prog = true := by kernel_rfl
theorem kerfJoins_lifted (os : Os) (started : os.Started) (H : Type) (enc : TypeId × Value → H) :
    ReturnsInHanded {} Try.checked os 4 .any (Rows.kerfJoinsSpec.pre6 enc Try.prog Try.f4 Rows.kerfJoinsRow.domain false) (Rows.kerfJoinsSpec.post enc Try.prog Try.f4 false true false false) :=
  law_lifted (A := Try.checked) (rt := Try.f4.resultTypes[0]!) own laidOut started Try.func4 (by kernel_rfl) rfl (ss := [(iv 6), (iv 6), i1]) (by kernel_rfl) (by kernel_rfl) rfl (by kernel_rfl)
    (fun ds hl => by
        match ds, hl with
        | [d1, d2, d3], _ => exact ⟨rfl, rfl, rfl⟩)
    (ChangeSpec.witness6 (enc := enc) (C := Try.checked) false ⟨#[], #[.agg #[.int .i64 0, .int .i64 0, .int .i64 0, .int .i64 0, .int .i64 0, .int .i64 0], .agg #[.int .i64 0, .int .i64 0, .int .i64 0, .int .i64 0, .int .i64 0, .int .i64 0], .int .i64 0], []⟩ 8 (by kernel_rfl) (by kernel_rfl) (by kernel_rfl) (by kernel_rfl))
    l4 (fun _ => trivial)
/-- The statement: for all boxes and axes Join answers as the reference does. -/
theorem kerfJoins_holds : Rows.KerfJoinsSaid :=
  OpenClaim.holds_of_wide 4 Try.f4 rfl rfl rfl rfl rfl rfl rfl ⟨rfl, rfl, rfl, rfl, rfl⟩ rfl rfl rfl rfl rfl (by kernel_rfl) Try.func4 (by kernel_rfl)
    (of_decide_eq_true (by kernel_rfl)) (by unfold Func.isWrapper; rw [if_neg (of_decide_eq_false (by kernel_rfl))]; exact ⟨rfl, rfl⟩)
    (fun os started H enc _ => kerfJoins_lifted os started H enc)
end Go.Proofs.Ytdfcphfoccgopaa
