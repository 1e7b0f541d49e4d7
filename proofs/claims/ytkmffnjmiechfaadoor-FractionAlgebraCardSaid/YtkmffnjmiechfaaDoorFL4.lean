/- The fraction seat, addition and multiplication obey their laws, and Sub and Div undo them; for every input, without a condition. -/
import Derived.Test.YtkmffnjmiechfaaDoorFA1
import Derived.Test.YtkmffnjmiechfaaDoorFA2
import Derived.Test.YtkmffnjmiechfaaDoorRows
import Derived.Test.YtkmffnjmiechfaaDoorTie
import Derived.Test.YtkmffnjmiechfaaDoorCards
import Derived.SevenTiedAt
namespace Go.Proofs.YtkmffnjmiechfaaDoor
open Go.Sx
set_option linter.unusedVariables false
set_option linter.unusedSimpArgs false
set_option maxRecDepth 100000
open Go.ChangeShapes Go.WideShapes Go.ChangeAt Go.RowKit
theorem l4 : ∀ l, InRange [(iv 2), (iv 2), (iv 2)] l → ∀ W, GG W → Calls Tryd.prog 4 (packs [(iv 2), (iv 2), (iv 2)] l).toArray W fun e w' => e = .returned (.bool true) ∧ Below W.heap.size W w' :=
  lawF_of [11, 13, 12, 14, 16] [39, 74, 83, 84] noLoop 100 mixed Tryd.func4 (by kernel_rfl) (forall_cons c11 (forall_cons c13 (forall_cons c12 (forall_cons c14 (forall_cons c16 forall_nil))))) fun l0 hl0 => by
    obtain ⟨an, l1, rfl, r0, hl1⟩ := Go.Sx.range_i64 hl0
    obtain ⟨ad, l2, rfl, r1, hl2⟩ := Go.Sx.range_i64 hl1
    obtain ⟨bn, l3, rfl, r2, hl3⟩ := Go.Sx.range_i64 hl2
    obtain ⟨bd, l4, rfl, r3, hl4⟩ := Go.Sx.range_i64 hl3
    obtain ⟨cn, l5, rfl, r4, hl5⟩ := Go.Sx.range_i64 hl4
    obtain ⟨cd, l6, rfl, r5, hl6⟩ := Go.Sx.range_i64 hl5
    cases Go.Sx.range_nil hl6
    clear hl6 hl5 hl4 hl3 hl2 hl1 hl0
    have key : ∀ b3 c1 : Bool, ∃ bz c2 c3 c4 : Bool, (b3 = true → decide (bn = 0) = bz) ∧ (b3 = true → c1 = true → decide (Mul2 an ad (Add0 bn bd cn cd) (Add1 bn bd cn cd) = 0) = c2) ∧ (c2 = true → decide (Mul2 an ad cn cd = 0) = c3) ∧
        (c3 = true → decide (Add2 (Mul0 an ad bn bd) (Mul1 an ad bn bd) (Mul0 an ad cn cd) (Mul1 an ad cn cd) = 0) = c4) ∧ (b3 = false → bz = false) ∧ ((b3 && c1) = false → c2 = false) ∧ (c2 = false → c3 = false) ∧ (c3 = false → c4 = false) := by
      intro b3 c1
      refine ⟨b3 && decide (bn = 0), (b3 && c1) && decide (Mul2 an ad (Add0 bn bd cn cd) (Add1 bn bd cn cd) = 0), ((b3 && c1) && decide (Mul2 an ad (Add0 bn bd cn cd) (Add1 bn bd cn cd) = 0)) && decide (Mul2 an ad cn cd = 0), (((b3 && c1) && decide (Mul2 an ad (Add0 bn bd cn cd) (Add1 bn bd cn cd) = 0)) && decide (Mul2 an ad cn cd = 0)) && decide (Add2 (Mul0 an ad bn bd) (Mul1 an ad bn bd) (Mul0 an ad cn cd) (Mul1 an ad cn cd) = 0), ?_, ?_, ?_, ?_, ?_, ?_, ?_, ?_⟩
      · intro h; rw [h]; rfl
      · intro h h'; rw [h, h']; rfl
      · intro h; rw [h]; rfl
      · intro h; rw [h]; rfl
      · intro h; rw [h]; rfl
      · intro h; rw [h]; rfl
      · intro h; rw [h]; rfl
      · intro h; rw [h]; rfl
    obtain ⟨bz, c2, c3, c4, hz, k2, k3, k4, z1, z2, z3, z4⟩ := key (decide (Mul2 an ad bn bd = 0)) (decide (Add2 bn bd cn cd = 0))
    refine ⟨_, facts_ok an ad bn bd cn cd rfl rfl hz rfl k2 k3 k4, ?_⟩
    rw [t4 _ _ _ _ _ _ _ z1 z2 z3 z4]

theorem fractionAlgebra_lifted (os : Os) (started : os.Started) (H : Type) (enc : TypeId × Value → H) :
    ReturnsInHanded {} Tryd.checked os 4 .any (fun w args => (Rows.fractionAlgebraSpec.pre enc Tryd.prog Tryd.f4 Rows.fractionAlgebraRow.domain false w args ∧ laidMet Tryd.prog laidL w) ∧ sizedMet enc Tryd.prog Tryd.f4 (OpenSpec.ofChange Rows.fractionAlgebraSpec) false w args)
      (Rows.fractionAlgebraSpec.post enc Tryd.prog Tryd.f4 false true false false) :=
  lawG_lifted (rt := Tryd.f4.resultTypes[0]!) started Tryd.func4 (by kernel_rfl) rfl (ss := [(iv 2), (iv 2), (iv 2)]) (by kernel_rfl) (by kernel_rfl) rfl (by kernel_rfl)
    (fun ds hl => by
      match ds, hl with
      | [d1, d2, d3], _ => exact ⟨rfl, rfl, rfl⟩)
    (ChangeSpec.witness_shaped (enc := enc) (C := Tryd.checked) (os := os) (X := fun w _ => laidMet Tryd.prog laidL w) false (World.doorLaid Tryd.prog 400 os) #[.agg #[.int .i64 0, .int .i64 0], .agg #[.int .i64 0, .int .i64 0], .agg #[.int .i64 0, .int .i64 0]] 8 rfl (World.shaped_of_RefB (by kernel_rfl) (by kernel_rfl)) (by kernel_rfl) (by kernel_rfl) (by kernel_rfl) (door_met os _))
    l4
theorem fractionAlgebra_said : Rows.FractionAlgebraSaid :=
  OpenClaim.holds_of_wide 4 Tryd.f4 rfl rfl rfl rfl rfl rfl rfl ⟨rfl, rfl, rfl, rfl, rfl⟩ rfl rfl rfl rfl rfl (by kernel_rfl) Tryd.func4 (by kernel_rfl)
    (of_decide_eq_true (by kernel_rfl)) (by unfold Func.isWrapper; rw [if_neg (of_decide_eq_false (by kernel_rfl))]; exact ⟨rfl, rfl⟩)
    (fun os started H enc _ => fractionAlgebra_lifted os started H enc)
/-- The statement: addition and multiplication obey their laws, and Sub and Div undo them. -/
theorem fractionAlgebra_holds : Rows.FractionAlgebraCardSaid :=
  Claim7.holds_tied_plain_at .later [] [.data, .data, .data, .sentinel, .sentinel] true (true, "1cd9dce0ac13f553b81852ae08feed0f54c78e7bc9128b095bd4cf0c92103930") true
    fractionAlgebra_said (fun _ h => by cases h) (by kernel_rfl) (fun _ h => by cases h) fractionAlgebra_row_tie rfl ⟨rfl, rfl⟩ (by kernel_rfl) rfl
    (fun f fn hf hfn => by
      obtain rfl : f = 4 := Option.some.inj ((show Tryd.prog.funcNamed "gangsaw/gangsawlaw04.FractionAlgebra" = some 4 by kernel_rfl).symm.trans hf) |>.symm
      obtain rfl : fn = Tryd.f4 := (Option.some.inj (Tryd.func4.symm.trans hfn)).symm
      exact ⟨by kernel_rfl, fun j t ht => by
        have ha : (Tryd.f4.params.toList.all fun t => !Tryd.prog.wantsStandIn t) = true := by kernel_rfl
        have hm : t ∈ Tryd.f4.params.toList := Array.mem_toList_iff.2 (Array.mem_of_getElem? ht)
        have h1 := List.all_eq_true.1 ha t hm
        have h2 : Tryd.prog.wantsStandIn t = false := by simpa using h1
        exact h2⟩)
    (by kernel_rfl)
end Go.Proofs.YtkmffnjmiechfaaDoor
