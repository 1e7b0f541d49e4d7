/- The kerf seat, for all boxes, axes and thicknesses Slices and Cuts answer as the reference does, or with the stated error; for every input, without a condition. -/
import Derived.Test.YtdfcphfoccgopaaQK6
import Derived.Test.YtdfcphfoccgopaaKP6
import Derived.Test.YtdfcphfoccgopaaRows
namespace Go.Proofs.Ytdfcphfoccgopaa
open Go.Sx
set_option linter.unusedVariables false
set_option linter.unusedSimpArgs false
set_option maxRecDepth 100000
open Go.ChangeShapes Go.WideShapes Go.ChangeAt Go.RowKit
namespace QK
theorem eloop {x0 y0 z0 x1 y1 z1 ax t q : Int} {m : Nat} (hm : m ≤ 1000) : ∀ (d j fuel : Nat), m = j + d → d < fuel → L_KerfSlices.l0 fuel (slcs x0 y0 z0 x1 y1 z1 ax t q m) (slcs x0 y0 z0 x1 y1 z1 ax t q m) j = some true
  | 0, j, f + 1, hj, _ => by
    simp only [L_KerfSlices.l0, slcs_len]
    rw [if_neg (by omega)]
  | d + 1, j, f + 1, hj, hf => by
    have ih := eloop (x0 := x0) (y0 := y0) (z0 := z0) (x1 := x1) (y1 := y1) (z1 := z1) (ax := ax) (t := t) (q := q) hm d (j + 1) f (by omega) (by omega)
    simp only [L_KerfSlices.l0, slcs_len]
    rw [if_pos (by omega), if_pos (by omega), if_pos (by omega), w64 (n := (j : Int) + 1) (by omega) (by omega)]
    simp
    exact ih
  | d, j, 0, _, hf => by omega
theorem law6 (x0 y0 z0 x1 y1 z1 ax t q : Int) : L_KerfSlices.f 1500 x0 y0 z0 x1 y1 z1 ax t q = some true := by
  unfold L_KerfSlices.f L_awake.f R_Slicing.f
  simp only [Option.bind_some, if_true, sli0]
  by_cases hE : cntE x0 y0 z0 x1 y1 z1 ax t q = 0
  · obtain ⟨n, hN, o⟩ := ok_of hE
    have hn := o.hn
    have hl := cnum_le (x0 := x0) (y0 := y0) (z0 := z0) (x1 := x1) (y1 := y1) (z1 := z1) (ax := ax) (t := t) (q := q) (n := n)
    rw [kslices o hE hN (by omega), kcuts o hE hN (by omega), rslices o hN (by omega), rcuts o hN (by omega)]
    simp only [Option.bind_some, hE, if_true]
    rw [ssame (by omega) (by omega)]
    simp [L_KerfSlices.j0, slcs_len]
    exact eloop (by omega) n 0 1499 (by omega) (by omega)
  · have h1 : K_Slices.f 1500 x0 y0 z0 x1 y1 z1 ax t q = some ([], 0, 0, 0, 0, 0, 0, cntE x0 y0 z0 x1 y1 z1 ax t q) := by
      unfold K_Slices.f K_count.f
      simp [cnt0, cnt1, hE]
    have h2 : K_Cuts.f 1500 x0 y0 z0 x1 y1 z1 ax t q = some ([], cntE x0 y0 z0 x1 y1 z1 ax t q) := by
      unfold K_Cuts.f
      rw [h1]
      simp [hE]
    rw [h1, h2]
    simp [hE]
end QK
theorem own6 (x0 y0 z0 x1 y1 z1 ax t q : Int) (W : World) : Calls Try.prog 6 #[.agg #[.int .i64 x0, .int .i64 y0, .int .i64 z0, .int .i64 x1, .int .i64 y1, .int .i64 z1], .int .i64 ax, .int .i64 t, .int .i64 q] W fun e w' => e = .returned (.bool true) ∧ Below W.heap.size W w' :=
  QK.L_KerfSlices.calls 1500 x0 y0 z0 x1 y1 z1 ax t q true W (QK.law6 x0 y0 z0 x1 y1 z1 ax t q)
theorem l6 : ∀ l, InRange [(iv 6), i1, i1, i1] l → ∀ W, GG W → Calls Try.prog 6 (packs [(iv 6), i1, i1, i1] l).toArray W fun e w' => e = .returned (.bool true) ∧ Below W.heap.size W w' := by
  intro l0 hl0 W hG
  obtain ⟨x0, l1, rfl, r0, hl1⟩ := range_i64 hl0
  obtain ⟨y0, l2, rfl, r1, hl2⟩ := range_i64 hl1
  obtain ⟨z0, l3, rfl, r2, hl3⟩ := range_i64 hl2
  obtain ⟨x1, l4, rfl, r3, hl4⟩ := range_i64 hl3
  obtain ⟨y1, l5, rfl, r4, hl5⟩ := range_i64 hl4
  obtain ⟨z1, l6, rfl, r5, hl6⟩ := range_i64 hl5
  obtain ⟨ax, l7, rfl, r6, hl7⟩ := range_i64 hl6
  obtain ⟨t, l8, rfl, r7, hl8⟩ := range_i64 hl7
  obtain ⟨q, l9, rfl, r8, hl9⟩ := range_i64 hl8
  cases range_nil hl9
  exact own6 x0 y0 z0 x1 y1 z1 ax t q W
theorem own : ownKnob Try.prog.godebug = none := by kernel_rfl
theorem laidOut : laidOutB Try.prog = true := by kernel_rfl
theorem kerfSlices_lifted (os : Os) (started : os.Started) (H : Type) (enc : TypeId × Value → H) :
    ReturnsInHanded {} Try.checked os 6 .any (Rows.kerfSlicesSpec.pre6 enc Try.prog Try.f6 Rows.kerfSlicesRow.domain false) (Rows.kerfSlicesSpec.post enc Try.prog Try.f6 false true false false) :=
  law_lifted (A := Try.checked) (rt := Try.f6.resultTypes[0]!) own laidOut started Try.func6 (by kernel_rfl) rfl (ss := [(iv 6), i1, i1, i1]) (by kernel_rfl) (by kernel_rfl) rfl (by kernel_rfl)
    (fun ds hl => by
        match ds, hl with
        | [d1, d2, d3, d4], _ => exact ⟨rfl, rfl, rfl⟩)
    (ChangeSpec.witness6 (enc := enc) (C := Try.checked) false ⟨#[], #[.agg #[.int .i64 0, .int .i64 0, .int .i64 0, .int .i64 0, .int .i64 0, .int .i64 0], .int .i64 0, .int .i64 0, .int .i64 0], []⟩ 8 (by kernel_rfl) (by kernel_rfl) (by kernel_rfl) (by kernel_rfl))
    l6 (fun _ => trivial)
/-- The statement: for all boxes, axes and thicknesses Slices and Cuts answer as the reference does, or with the stated error. -/
theorem kerfSlices_holds : Rows.KerfSlicesSaid :=
  OpenClaim.holds_of_wide 6 Try.f6 rfl rfl rfl rfl rfl rfl rfl ⟨rfl, rfl, rfl, rfl, rfl⟩ rfl rfl rfl rfl rfl (by kernel_rfl) Try.func6 (by kernel_rfl)
    (of_decide_eq_true (by kernel_rfl)) (by unfold Func.isWrapper; rw [if_neg (of_decide_eq_false (by kernel_rfl))]; exact ⟨rfl, rfl⟩)
    (fun os started H enc _ => kerfSlices_lifted os started H enc)
end Go.Proofs.Ytdfcphfoccgopaa
