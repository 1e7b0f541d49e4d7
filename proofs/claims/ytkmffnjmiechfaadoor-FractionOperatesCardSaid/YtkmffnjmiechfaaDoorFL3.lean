/- The fraction seat, Add, Sub, Mul and Div return the exact results, or the first error; for every input, without a condition. -/
import Derived.Test.YtkmffnjmiechfaaDoorFLaw
import Derived.Test.YtkmffnjmiechfaaDoorRows
import Derived.Test.YtkmffnjmiechfaaDoorTie
import Derived.Test.YtkmffnjmiechfaaDoorCards
import Derived.SevenTiedAt
namespace Go.Proofs.YtkmffnjmiechfaaDoor
open Go.Sx
set_option linter.unusedVariables false
set_option linter.unusedSimpArgs false
set_option maxRecDepth 100000
open Go.ChangeShapes Go.WideShapes Go.ChangeAt Go.RowKit
theorem t3 (an : Int) (ad : Int) (bn : Int) (bd : Int) (Q : List Sc → Prop) : (fnT (cfgOf Tryd.prog sigs [11, 12, 13, 14, 15, 16, 17, 18, 19, 20] [39, 74, 83, 84] noLoop) 3 Tryd.f3 (bodyOf Tryd.f3) ⟨[(iv 2), (iv 2)], [sb], none, none, none⟩ 100).holds Φ [.int an, .int ad, .int bn, .int bd] (resQ Φ Q) =
  (cond (two0 an ad bn bd)
   (cond (rAddP an ad bn bd)
   (cond (rSubP an ad bn bd)
   (cond (rMulP an ad bn bd)
   (cond (cmpI .eql bn 0)
    (cond awk0
     (cond (cmpI .eql (Add2 an ad bn bd) (rAdd2 an ad bn bd))
      (cond ((cmpI .eql (Add0 an ad bn bd) (rAdd0 an ad bn bd)) && (cmpI .eql (Add1 an ad bn bd) (rAdd1 an ad bn bd)))
       (cond (cmpI .eql (Sub2 an ad bn bd) (rSub2 an ad bn bd))
        (cond ((cmpI .eql (Sub0 an ad bn bd) (rSub0 an ad bn bd)) && (cmpI .eql (Sub1 an ad bn bd) (rSub1 an ad bn bd)))
         (cond (cmpI .eql (Mul2 an ad bn bd) (rMul2 an ad bn bd))
          (cond ((cmpI .eql (Mul0 an ad bn bd) (rMul0 an ad bn bd)) && (cmpI .eql (Mul1 an ad bn bd) (rMul1 an ad bn bd)))
           (cond (cmpI .eql (Div2 an ad bn bd) 1)
            (Q [.bool ((cmpI .eql (Div0 an ad bn bd) 0) && (cmpI .eql (Div1 an ad bn bd) 0))])
            (Q [.bool false]))
           (Q [.bool false]))
          (Q [.bool false]))
         (Q [.bool false]))
        (Q [.bool false]))
       (Q [.bool false]))
      (Q [.bool false]))
     (Q [.bool false]))
    (cond (rDivP an ad bn bd)
    (cond awk0
     (cond (cmpI .eql (Add2 an ad bn bd) (rAdd2 an ad bn bd))
      (cond ((cmpI .eql (Add0 an ad bn bd) (rAdd0 an ad bn bd)) && (cmpI .eql (Add1 an ad bn bd) (rAdd1 an ad bn bd)))
       (cond (cmpI .eql (Sub2 an ad bn bd) (rSub2 an ad bn bd))
        (cond ((cmpI .eql (Sub0 an ad bn bd) (rSub0 an ad bn bd)) && (cmpI .eql (Sub1 an ad bn bd) (rSub1 an ad bn bd)))
         (cond (cmpI .eql (Mul2 an ad bn bd) (rMul2 an ad bn bd))
          (cond ((cmpI .eql (Mul0 an ad bn bd) (rMul0 an ad bn bd)) && (cmpI .eql (Mul1 an ad bn bd) (rMul1 an ad bn bd)))
           (cond (cmpI .eql (Div2 an ad bn bd) (rDiv2 an ad bn bd))
            (Q [.bool ((cmpI .eql (Div0 an ad bn bd) (rDiv0 an ad bn bd)) && (cmpI .eql (Div1 an ad bn bd) (rDiv1 an ad bn bd)))])
            (Q [.bool false]))
           (Q [.bool false]))
          (Q [.bool false]))
         (Q [.bool false]))
        (Q [.bool false]))
       (Q [.bool false]))
      (Q [.bool false]))
     (Q [.bool false]))
    False))
   False)
   False)
   False)
   (cond awk0
    (cond (cmpI .eql (Add2 an ad bn bd) 1)
     (cond (cmpI .eql (Sub2 an ad bn bd) (Add2 an ad bn bd))
      (cond (cmpI .eql (Mul2 an ad bn bd) (Add2 an ad bn bd))
       (cond (cmpI .eql (Div2 an ad bn bd) (Add2 an ad bn bd))
        (cond ((cmpI .eql (Add0 an ad bn bd) 0) && (cmpI .eql (Add1 an ad bn bd) 0))
         (cond ((cmpI .eql (Sub0 an ad bn bd) 0) && (cmpI .eql (Sub1 an ad bn bd) 0))
          (cond ((cmpI .eql (Mul0 an ad bn bd) 0) && (cmpI .eql (Mul1 an ad bn bd) 0))
           (Q [.bool ((cmpI .eql (Div0 an ad bn bd) 0) && (cmpI .eql (Div1 an ad bn bd) 0))])
           (Q [.bool false]))
          (Q [.bool false]))
         (Q [.bool false]))
        (Q [.bool false]))
       (Q [.bool false]))
      (Q [.bool false]))
     (Q [.bool false]))
    (Q [.bool false]))) := by kernel_rfl

theorem l3 : ∀ l, InRange [(iv 2), (iv 2)] l → ∀ W, GG W → Calls Tryd.prog 3 (packs [(iv 2), (iv 2)] l).toArray W fun e w' => e = .returned (.bool true) ∧ Below W.heap.size W w' :=
  law_of [11, 12, 13, 14, 15, 16, 17, 18, 19, 20] [39, 74, 83, 84] noLoop 100 mixed Tryd.func3 (by kernel_rfl) (forall_cons c11 (forall_cons c12 (forall_cons c13 (forall_cons c14 (forall_cons c15 (forall_cons c16 (forall_cons c17 (forall_cons c18 (forall_cons c19 (forall_cons c20 forall_nil)))))))))) fun l0 hl0 => by
    obtain ⟨an, l1, rfl, r0, hl1⟩ := Go.Sx.range_i64 hl0
    obtain ⟨ad, l2, rfl, r1, hl2⟩ := Go.Sx.range_i64 hl1
    obtain ⟨bn, l3, rfl, r2, hl3⟩ := Go.Sx.range_i64 hl2
    obtain ⟨bd, l4, rfl, r3, hl4⟩ := Go.Sx.range_i64 hl3
    cases Go.Sx.range_nil hl4
    clear hl4 hl3 hl2 hl1 hl0
    show T.holds _ _ _ (resQ Φ fun rs => rs = [.bool true])
    rw [t3]
    cases v1 : vF an ad with
    | false => simp [two0, v1, awk0, Add0, Add1, Add2, Sub0, Sub1, Sub2, Mul0, Mul1, Mul2, Div0, Div1, Div2, rAdd0, rAdd1, rAdd2, rSub0, rSub1, rSub2, rMul0, rMul1, rMul2, rDiv0, rDiv1, rDiv2, eql_d]
    | true =>
      cases v2 : vF bn bd with
      | false => simp [two0, v1, v2, awk0, Add0, Add1, Add2, Sub0, Sub1, Sub2, Mul0, Mul1, Mul2, Div0, Div1, Div2, rAdd0, rAdd1, rAdd2, rSub0, rSub1, rSub2, rMul0, rMul1, rMul2, rDiv0, rDiv1, rDiv2, eql_d]
      | true =>
        by_cases b0 : bn = 0
        · subst b0
          simp [two0, v1, v2, awk0, rAddP, rSubP, rMulP, rDivP, Add0, Add1, Add2, Sub0, Sub1, Sub2, Mul0, Mul1, Mul2, Div0, Div1, Div2, rAdd0, rAdd1, rAdd2, rSub0, rSub1, rSub2, rMul0, rMul1, rMul2, rDiv0, rDiv1, rDiv2, eql_d]
        · simp [two0, v1, v2, awk0, rAddP, rSubP, rMulP, rDivP, b0, Add0, Add1, Add2, Sub0, Sub1, Sub2, Mul0, Mul1, Mul2, Div0, Div1, Div2, rAdd0, rAdd1, rAdd2, rSub0, rSub1, rSub2, rMul0, rMul1, rMul2, rDiv0, rDiv1, rDiv2, eql_d]
theorem fractionOperates_lifted (os : Os) (started : os.Started) (H : Type) (enc : TypeId × Value → H) :
    ReturnsInHanded {} Tryd.checked os 3 .any (fun w args => (Rows.fractionOperatesSpec.pre enc Tryd.prog Tryd.f3 Rows.fractionOperatesRow.domain false w args ∧ laidMet Tryd.prog laidL w) ∧ sizedMet enc Tryd.prog Tryd.f3 (OpenSpec.ofChange Rows.fractionOperatesSpec) false w args)
      (Rows.fractionOperatesSpec.post enc Tryd.prog Tryd.f3 false true false false) :=
  lawG_lifted (rt := Tryd.f3.resultTypes[0]!) started Tryd.func3 (by kernel_rfl) rfl (ss := [(iv 2), (iv 2)]) (by kernel_rfl) (by kernel_rfl) rfl (by kernel_rfl)
    (fun ds hl => by
      match ds, hl with
      | [d1, d2], _ => exact ⟨rfl, rfl, rfl⟩)
    (ChangeSpec.witness_shaped (enc := enc) (C := Tryd.checked) (os := os) (X := fun w _ => laidMet Tryd.prog laidL w) false (World.doorLaid Tryd.prog 400 os) #[.agg #[.int .i64 0, .int .i64 0], .agg #[.int .i64 0, .int .i64 0]] 8 rfl (World.shaped_of_RefB (by kernel_rfl) (by kernel_rfl)) (by kernel_rfl) (by kernel_rfl) (by kernel_rfl) (door_met os _))
    l3
theorem fractionOperates_said : Rows.FractionOperatesSaid :=
  OpenClaim.holds_of_wide 3 Tryd.f3 rfl rfl rfl rfl rfl rfl rfl ⟨rfl, rfl, rfl, rfl, rfl⟩ rfl rfl rfl rfl rfl (by kernel_rfl) Tryd.func3 (by kernel_rfl)
    (of_decide_eq_true (by kernel_rfl)) (by unfold Func.isWrapper; rw [if_neg (of_decide_eq_false (by kernel_rfl))]; exact ⟨rfl, rfl⟩)
    (fun os started H enc _ => fractionOperates_lifted os started H enc)
/-- The statement: Add, Sub, Mul and Div return the exact results, or the first error. -/
theorem fractionOperates_holds : Rows.FractionOperatesCardSaid :=
  Claim7.holds_tied_plain_at .later [] [.data, .data, .data, .sentinel, .sentinel] true (true, "1cd9dce0ac13f553b81852ae08feed0f54c78e7bc9128b095bd4cf0c92103930") true
    fractionOperates_said (fun _ h => by cases h) (by kernel_rfl) (fun _ h => by cases h) fractionOperates_row_tie rfl ⟨rfl, rfl⟩ (by kernel_rfl) rfl
    (fun f fn hf hfn => by
      obtain rfl : f = 3 := Option.some.inj ((show Tryd.prog.funcNamed "gangsaw/gangsawlaw04.FractionOperates" = some 3 by kernel_rfl).symm.trans hf) |>.symm
      obtain rfl : fn = Tryd.f3 := (Option.some.inj (Tryd.func3.symm.trans hfn)).symm
      exact ⟨by kernel_rfl, fun j t ht => by
        have ha : (Tryd.f3.params.toList.all fun t => !Tryd.prog.wantsStandIn t) = true := by kernel_rfl
        have hm : t ∈ Tryd.f3.params.toList := Array.mem_toList_iff.2 (Array.mem_of_getElem? ht)
        have h1 := List.all_eq_true.1 ha t hm
        have h2 : Tryd.prog.wantsStandIn t = false := by simpa using h1
        exact h2⟩)
    (by kernel_rfl)
end Go.Proofs.YtkmffnjmiechfaaDoor
