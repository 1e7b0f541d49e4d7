/- The fraction seat, Power returns the product of n factors, or the first error; for every input, without a condition. -/
import Derived.Test.YtkmffnjmiechfaaDoorFLaw
import Derived.Test.YtkmffnjmiechfaaDoorRows
import Derived.Test.YtkmffnjmiechfaaDoorTie
import Derived.Test.YtkmffnjmiechfaaDoorCards
import Derived.SevenTiedAt
namespace Go.Proofs.YtkmffnjmiechfaaDoor
open Go.Sx
set_option linter.unusedVariables false
set_option linter.unusedSimpArgs false
set_option maxRecDepth 100000
open Go.ChangeShapes Go.WideShapes Go.ChangeAt Go.RowKit
theorem t6 (an : Int) (ad : Int) (n : Int) (Q : List Sc → Prop) : (fnT (cfgOf Tryd.prog sigs [25, 24, 16, 26] [39, 74, 83, 84] noLoop) 6 Tryd.f6 (bodyOf Tryd.f6) ⟨[(iv 2), i1], [sb], none, none, none⟩ 100).holds Φ [.int an, .int ad, .int n] (resQ Φ Q) =
  (cond (rVal0 an ad)
   (cond (cmpI .lss n 0)
    (cond awk0
     (cond (cmpI .eql (Pow2 an ad n) 1)
      (Q [.bool ((cmpI .eql (Pow0 an ad n) 0) && (cmpI .eql (Pow1 an ad n) 0))])
      (Q [.bool false]))
     (Q [.bool false]))
    (cond (cmpI .lss 64 n)
     (cond awk0
      (cond (cmpI .eql (Pow2 an ad n) 1)
       (Q [.bool ((cmpI .eql (Pow0 an ad n) 0) && (cmpI .eql (Pow1 an ad n) 0))])
       (Q [.bool false]))
      (Q [.bool false]))
     (cond (rPowP an ad n)
     (cond awk0
      (cond (cmpI .eql (Pow2 an ad n) (rPow2 an ad n))
       (Q [.bool ((cmpI .eql (Pow0 an ad n) (rPow0 an ad n)) && (cmpI .eql (Pow1 an ad n) (rPow1 an ad n)))])
       (Q [.bool false]))
      (Q [.bool false]))
     False)))
   (cond awk0
    (cond (cmpI .eql (Pow2 an ad n) 1)
     (Q [.bool ((cmpI .eql (Pow0 an ad n) 0) && (cmpI .eql (Pow1 an ad n) 0))])
     (Q [.bool false]))
    (Q [.bool false]))) := by kernel_rfl

theorem l6 : ∀ l, InRange [(iv 2), i1] l → ∀ W, GG W → Calls Tryd.prog 6 (packs [(iv 2), i1] l).toArray W fun e w' => e = .returned (.bool true) ∧ Below W.heap.size W w' :=
  law_of [25, 24, 16, 26] [39, 74, 83, 84] noLoop 100 mixed Tryd.func6 (by kernel_rfl) (forall_cons c25 (forall_cons c24 (forall_cons c16 (forall_cons c26 forall_nil)))) fun l0 hl0 => by
    obtain ⟨an, l1, rfl, r0, hl1⟩ := Go.Sx.range_i64 hl0
    obtain ⟨ad, l2, rfl, r1, hl2⟩ := Go.Sx.range_i64 hl1
    obtain ⟨n, l3, rfl, r2, hl3⟩ := Go.Sx.range_i64 hl2
    cases Go.Sx.range_nil hl3
    clear hl3 hl2 hl1 hl0
    show T.holds _ _ _ (resQ Φ fun rs => rs = [.bool true])
    rw [t6]
    cases v1 : vF an ad with
    | false => simp [v1, awk0, Pow0, Pow1, Pow2, eql_d]
    | true =>
      by_cases c1 : n < 0
      · have c2 : ¬ 0 ≤ n := by omega
        simp [v1, c1, c2, awk0, Pow0, Pow1, Pow2, eql_d, lss_d]
      · have c2 : 0 ≤ n := by omega
        by_cases c3 : 64 < n
        · have c4 : ¬ n ≤ 64 := by omega
          simp [v1, c1, c2, c3, c4, awk0, Pow0, Pow1, Pow2, eql_d, lss_d]
        · have c4 : n ≤ 64 := by omega
          simp [v1, c1, c2, c3, c4, awk0, Pow0, Pow1, Pow2, rPow0, rPow1, rPow2, rPowP, eql_d, lss_d]
theorem fractionPowers_lifted (os : Os) (started : os.Started) (H : Type) (enc : TypeId × Value → H) :
    ReturnsInHanded {} Tryd.checked os 6 .any (fun w args => (Rows.fractionPowersSpec.pre enc Tryd.prog Tryd.f6 Rows.fractionPowersRow.domain false w args ∧ laidMet Tryd.prog laidL w) ∧ sizedMet enc Tryd.prog Tryd.f6 (OpenSpec.ofChange Rows.fractionPowersSpec) false w args)
      (Rows.fractionPowersSpec.post enc Tryd.prog Tryd.f6 false true false false) :=
  lawG_lifted (rt := Tryd.f6.resultTypes[0]!) started Tryd.func6 (by kernel_rfl) rfl (ss := [(iv 2), i1]) (by kernel_rfl) (by kernel_rfl) rfl (by kernel_rfl)
    (fun ds hl => by
      match ds, hl with
      | [d1, d2], _ => exact ⟨rfl, rfl, rfl⟩)
    (ChangeSpec.witness_shaped (enc := enc) (C := Tryd.checked) (os := os) (X := fun w _ => laidMet Tryd.prog laidL w) false (World.doorLaid Tryd.prog 400 os) #[.agg #[.int .i64 0, .int .i64 0], .int .i64 0] 8 rfl (World.shaped_of_RefB (by kernel_rfl) (by kernel_rfl)) (by kernel_rfl) (by kernel_rfl) (by kernel_rfl) (door_met os _))
    l6
theorem fractionPowers_said : Rows.FractionPowersSaid :=
  OpenClaim.holds_of_wide 6 Tryd.f6 rfl rfl rfl rfl rfl rfl rfl ⟨rfl, rfl, rfl, rfl, rfl⟩ rfl rfl rfl rfl rfl (by kernel_rfl) Tryd.func6 (by kernel_rfl)
    (of_decide_eq_true (by kernel_rfl)) (by unfold Func.isWrapper; rw [if_neg (of_decide_eq_false (by kernel_rfl))]; exact ⟨rfl, rfl⟩)
    (fun os started H enc _ => fractionPowers_lifted os started H enc)
/-- The statement: Power returns the product of n factors, or the first error. -/
theorem fractionPowers_holds : Rows.FractionPowersCardSaid :=
  Claim7.holds_tied_plain_at .later [] [.data, .data, .data, .sentinel, .sentinel] true (true, "1cd9dce0ac13f553b81852ae08feed0f54c78e7bc9128b095bd4cf0c92103930") true
    fractionPowers_said (fun _ h => by cases h) (by kernel_rfl) (fun _ h => by cases h) fractionPowers_row_tie rfl ⟨rfl, rfl⟩ (by kernel_rfl) rfl
    (fun f fn hf hfn => by
      obtain rfl : f = 6 := Option.some.inj ((show Tryd.prog.funcNamed "gangsaw/gangsawlaw04.FractionPowers" = some 6 by kernel_rfl).symm.trans hf) |>.symm
      obtain rfl : fn = Tryd.f6 := (Option.some.inj (Tryd.func6.symm.trans hfn)).symm
      exact ⟨by kernel_rfl, fun j t ht => by
        have ha : (Tryd.f6.params.toList.all fun t => !Tryd.prog.wantsStandIn t) = true := by kernel_rfl
        have hm : t ∈ Tryd.f6.params.toList := Array.mem_toList_iff.2 (Array.mem_of_getElem? ht)
        have h1 := List.all_eq_true.1 ha t hm
        have h2 : Tryd.prog.wantsStandIn t = false := by simpa using h1
        exact h2⟩)
    (by kernel_rfl)
end Go.Proofs.YtkmffnjmiechfaaDoor
