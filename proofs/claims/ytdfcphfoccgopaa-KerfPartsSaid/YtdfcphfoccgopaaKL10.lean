/- The kerf seat, each first part of a box that is split at its Cuts is a slice, and what is left is the rest or the last slice with what is ground off; for every input, without a condition. -/
import Derived.Test.YtdfcphfoccgopaaKQ2
import Derived.Test.YtdfcphfoccgopaaRows
namespace Go.Proofs.Ytdfcphfoccgopaa
open Go.Sx
set_option linter.unusedVariables false
set_option linter.unusedSimpArgs false
set_option maxRecDepth 100000
open Go.ChangeShapes Go.WideShapes Go.ChangeAt Go.RowKit
theorem own10 (x0 y0 z0 x1 y1 z1 ax t q : Int) (W : World) : Calls Try.prog 10 #[.agg #[.int .i64 x0, .int .i64 y0, .int .i64 z0, .int .i64 x1, .int .i64 y1, .int .i64 z1], .int .i64 ax, .int .i64 t, .int .i64 q] W fun e w' => e = .returned (.bool true) ∧ Below W.heap.size W w' :=
  QK.parts x0 y0 z0 x1 y1 z1 ax t q W
theorem l10 : ∀ l, InRange [(iv 6), i1, i1, i1] l → ∀ W, GG W → Calls Try.prog 10 (packs [(iv 6), i1, i1, i1] l).toArray W fun e w' => e = .returned (.bool true) ∧ Below W.heap.size W w' := by
  intro l0 hl0 W hG
  obtain ⟨x0, l1, rfl, r0, hl1⟩ := range_i64 hl0
  obtain ⟨y0, l2, rfl, r1, hl2⟩ := range_i64 hl1
  obtain ⟨z0, l3, rfl, r2, hl3⟩ := range_i64 hl2
  obtain ⟨x1, l4, rfl, r3, hl4⟩ := range_i64 hl3
  obtain ⟨y1, l5, rfl, r4, hl5⟩ := range_i64 hl4
  obtain ⟨z1, l6, rfl, r5, hl6⟩ := range_i64 hl5
  obtain ⟨ax, l7, rfl, r6, hl7⟩ := range_i64 hl6
  obtain ⟨t, l8, rfl, r7, hl8⟩ := range_i64 hl7
  obtain ⟨q, l9, rfl, r8, hl9⟩ := range_i64 hl8
  cases range_nil hl9
  exact own10 x0 y0 z0 x1 y1 z1 ax t q W
theorem own : ownKnob Try.prog.godebug = none := by kernel_rfl
theorem laidOut : laidOutB Try.prog = true := by kernel_rfl
theorem kerfParts_lifted (os : Os) (started : os.Started) (H : Type) (enc : TypeId × Value → H) :
    ReturnsInHanded {} Try.checked os 10 .any (Rows.kerfPartsSpec.pre6 enc Try.prog Try.f10 Rows.kerfPartsRow.domain false) (Rows.kerfPartsSpec.post enc Try.prog Try.f10 false true false false) :=
  law_lifted (A := Try.checked) (rt := Try.f10.resultTypes[0]!) own laidOut started Try.func10 (by kernel_rfl) rfl (ss := [(iv 6), i1, i1, i1]) (by kernel_rfl) (by kernel_rfl) rfl (by kernel_rfl)
    (fun ds hl => by
        match ds, hl with
        | [d1, d2, d3, d4], _ => exact ⟨rfl, rfl, rfl⟩)
    (ChangeSpec.witness6 (enc := enc) (C := Try.checked) false ⟨#[], #[.agg #[.int .i64 0, .int .i64 0, .int .i64 0, .int .i64 0, .int .i64 0, .int .i64 0], .int .i64 0, .int .i64 0, .int .i64 0], []⟩ 8 (by kernel_rfl) (by kernel_rfl) (by kernel_rfl) (by kernel_rfl))
    l10 (fun _ => trivial)
/-- The statement: each first part of a box that is split at its Cuts is a slice, and what is left is the rest or the last slice with what is ground off. -/
theorem kerfParts_holds : Rows.KerfPartsSaid :=
  OpenClaim.holds_of_wide 10 Try.f10 rfl rfl rfl rfl rfl rfl rfl ⟨rfl, rfl, rfl, rfl, rfl⟩ rfl rfl rfl rfl rfl (by kernel_rfl) Try.func10 (by kernel_rfl)
    (of_decide_eq_true (by kernel_rfl)) (by unfold Func.isWrapper; rw [if_neg (of_decide_eq_false (by kernel_rfl))]; exact ⟨rfl, rfl⟩)
    (fun os started H enc _ => kerfParts_lifted os started H enc)
end Go.Proofs.Ytdfcphfoccgopaa
