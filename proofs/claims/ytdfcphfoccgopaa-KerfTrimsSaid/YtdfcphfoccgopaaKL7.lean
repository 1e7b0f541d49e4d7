/- The kerf seat, for all boxes and pieces Trim answers as the reference does, or with the stated error; for every input, without a condition. -/
import Derived.Test.YtdfcphfoccgopaaKP7
import Derived.Test.YtdfcphfoccgopaaRows
namespace Go.Proofs.Ytdfcphfoccgopaa
open Go.Sx
set_option linter.unusedVariables false
set_option linter.unusedSimpArgs false
set_option maxRecDepth 100000
open Go.ChangeShapes Go.WideShapes Go.ChangeAt Go.RowKit
theorem own7 (a0 b0 c0 a1 b1 c1 p0 q0 r0 p1 q1 r1 kf : Int) (W : World) : Calls Try.prog 7 #[.agg #[.int .i64 a0, .int .i64 b0, .int .i64 c0, .int .i64 a1, .int .i64 b1, .int .i64 c1], .agg #[.int .i64 p0, .int .i64 q0, .int .i64 r0, .int .i64 p1, .int .i64 q1, .int .i64 r1], .int .i64 kf] W fun e w' => e = .returned (.bool true) ∧ Below W.heap.size W w' :=
  QT.L_KerfTrims.calls 40 a0 b0 c0 a1 b1 c1 p0 q0 r0 p1 q1 r1 kf true W (QT.law7 a0 b0 c0 a1 b1 c1 p0 q0 r0 p1 q1 r1 kf)
theorem l7 : ∀ l, InRange [(iv 6), (iv 6), i1] l → ∀ W, GG W → Calls Try.prog 7 (packs [(iv 6), (iv 6), i1] l).toArray W fun e w' => e = .returned (.bool true) ∧ Below W.heap.size W w' := by
  intro l0 hl0 W hG
  obtain ⟨u0, l1, rfl, r0, hl1⟩ := range_i64 hl0
  obtain ⟨u1, l2, rfl, r1, hl2⟩ := range_i64 hl1
  obtain ⟨u2, l3, rfl, r2, hl3⟩ := range_i64 hl2
  obtain ⟨u3, l4, rfl, r3, hl4⟩ := range_i64 hl3
  obtain ⟨u4, l5, rfl, r4, hl5⟩ := range_i64 hl4
  obtain ⟨u5, l6, rfl, r5, hl6⟩ := range_i64 hl5
  obtain ⟨v0, l7, rfl, r6, hl7⟩ := range_i64 hl6
  obtain ⟨v1, l8, rfl, r7, hl8⟩ := range_i64 hl7
  obtain ⟨v2, l9, rfl, r8, hl9⟩ := range_i64 hl8
  obtain ⟨v3, l10, rfl, r9, hl10⟩ := range_i64 hl9
  obtain ⟨v4, l11, rfl, r10, hl11⟩ := range_i64 hl10
  obtain ⟨v5, l12, rfl, r11, hl12⟩ := range_i64 hl11
  obtain ⟨kf, l13, rfl, r12, hl13⟩ := range_i64 hl12
  cases range_nil hl13
  exact own7 u0 u1 u2 u3 u4 u5 v0 v1 v2 v3 v4 v5 kf W
theorem own : ownKnob Try.prog.godebug = none := by kernel_rfl
theorem laidOut : laidOutB Try.prog = true := by kernel_rfl
theorem kerfTrims_lifted (os : Os) (started : os.Started) (H : Type) (enc : TypeId × Value → H) :
    ReturnsInHanded {} Try.checked os 7 .any (Rows.kerfTrimsSpec.pre6 enc Try.prog Try.f7 Rows.kerfTrimsRow.domain false) (Rows.kerfTrimsSpec.post enc Try.prog Try.f7 false true false false) :=
  law_lifted (A := Try.checked) (rt := Try.f7.resultTypes[0]!) own laidOut started Try.func7 (by kernel_rfl) rfl (ss := [(iv 6), (iv 6), i1]) (by kernel_rfl) (by kernel_rfl) rfl (by kernel_rfl)
    (fun ds hl => by
        match ds, hl with
        | [d1, d2, d3], _ => exact ⟨rfl, rfl, rfl⟩)
    (ChangeSpec.witness6 (enc := enc) (C := Try.checked) false ⟨#[], #[.agg #[.int .i64 0, .int .i64 0, .int .i64 0, .int .i64 0, .int .i64 0, .int .i64 0], .agg #[.int .i64 0, .int .i64 0, .int .i64 0, .int .i64 0, .int .i64 0, .int .i64 0], .int .i64 0], []⟩ 8 (by kernel_rfl) (by kernel_rfl) (by kernel_rfl) (by kernel_rfl))
    l7 (fun _ => trivial)
/-- The statement: for all boxes and pieces Trim answers as the reference does, or with the stated error. -/
theorem kerfTrims_holds : Rows.KerfTrimsSaid :=
  OpenClaim.holds_of_wide 7 Try.f7 rfl rfl rfl rfl rfl rfl rfl ⟨rfl, rfl, rfl, rfl, rfl⟩ rfl rfl rfl rfl rfl (by kernel_rfl) Try.func7 (by kernel_rfl)
    (of_decide_eq_true (by kernel_rfl)) (by unfold Func.isWrapper; rw [if_neg (of_decide_eq_false (by kernel_rfl))]; exact ⟨rfl, rfl⟩)
    (fun os started H enc _ => kerfTrims_lifted os started H enc)
end Go.Proofs.Ytdfcphfoccgopaa
