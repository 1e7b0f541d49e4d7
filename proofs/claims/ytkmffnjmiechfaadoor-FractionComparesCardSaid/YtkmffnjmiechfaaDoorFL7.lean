/- The fraction seat, Cmp, Floor and Round return the specified numbers, and 0 for what is no fraction; for every input, without a condition. -/
import Derived.Test.YtkmffnjmiechfaaDoorFLaw
import Derived.Test.YtkmffnjmiechfaaDoorRows
import Derived.Test.YtkmffnjmiechfaaDoorTie
import Derived.Test.YtkmffnjmiechfaaDoorCards
import Derived.SevenTiedAt
namespace Go.Proofs.YtkmffnjmiechfaaDoor
open Go.Sx
set_option linter.unusedVariables false
set_option linter.unusedSimpArgs false
set_option maxRecDepth 100000
open Go.ChangeShapes Go.WideShapes Go.ChangeAt Go.RowKit
theorem t7 (an : Int) (ad : Int) (bn : Int) (bd : Int) (Q : List Sc → Prop) : (fnT (cfgOf Tryd.prog sigs [27, 15, 28, 24, 16, 29, 30, 31, 32] [39, 74, 83, 84] noLoop) 7 Tryd.f7 (bodyOf Tryd.f7) ⟨[(iv 2), (iv 2)], [sb], none, none, none⟩ 100).holds Φ [.int an, .int ad, .int bn, .int bd] (resQ Φ Q) =
  (cond (two0 an ad bn bd)
   (cond (rCmpP an ad bn bd)
   (cond (cmpI .eql (Cmp0 an ad bn bd) (rCmp0 an ad bn bd))
    (cond (two0 an ad bn bd)
     (cond (rVal0 an ad)
      (cond awk0
       (cond (rFloP an ad)
       (cond (cmpI .eql (Flo0 an ad) (rFlo0 an ad))
        (cond (rRouP an ad)
        (Q [.bool (cmpI .eql (Rou0 an ad) (rRou0 an ad))])
        False)
        (Q [.bool false]))
       False)
       (Q [.bool false]))
      (cond awk0
       (cond (cmpI .eql (Flo0 an ad) 0)
        (Q [.bool (cmpI .eql (Rou0 an ad) 0)])
        (Q [.bool false]))
       (Q [.bool false])))
     (cond (cmpI .eql (Cmp0 an ad bn bd) 0)
      (cond (rVal0 an ad)
       (cond awk0
        (cond (rFloP an ad)
        (cond (cmpI .eql (Flo0 an ad) (rFlo0 an ad))
         (cond (rRouP an ad)
         (Q [.bool (cmpI .eql (Rou0 an ad) (rRou0 an ad))])
         False)
         (Q [.bool false]))
        False)
        (Q [.bool false]))
       (cond awk0
        (cond (cmpI .eql (Flo0 an ad) 0)
         (Q [.bool (cmpI .eql (Rou0 an ad) 0)])
         (Q [.bool false]))
        (Q [.bool false])))
      (Q [.bool false])))
    (Q [.bool false]))
   False)
   (cond (two0 an ad bn bd)
    (cond (rVal0 an ad)
     (cond awk0
      (cond (rFloP an ad)
      (cond (cmpI .eql (Flo0 an ad) (rFlo0 an ad))
       (cond (rRouP an ad)
       (Q [.bool (cmpI .eql (Rou0 an ad) (rRou0 an ad))])
       False)
       (Q [.bool false]))
      False)
      (Q [.bool false]))
     (cond awk0
      (cond (cmpI .eql (Flo0 an ad) 0)
       (Q [.bool (cmpI .eql (Rou0 an ad) 0)])
       (Q [.bool false]))
      (Q [.bool false])))
    (cond (cmpI .eql (Cmp0 an ad bn bd) 0)
     (cond (rVal0 an ad)
      (cond awk0
       (cond (rFloP an ad)
       (cond (cmpI .eql (Flo0 an ad) (rFlo0 an ad))
        (cond (rRouP an ad)
        (Q [.bool (cmpI .eql (Rou0 an ad) (rRou0 an ad))])
        False)
        (Q [.bool false]))
       False)
       (Q [.bool false]))
      (cond awk0
       (cond (cmpI .eql (Flo0 an ad) 0)
        (Q [.bool (cmpI .eql (Rou0 an ad) 0)])
        (Q [.bool false]))
       (Q [.bool false])))
     (Q [.bool false])))) := by kernel_rfl

theorem l7 : ∀ l, InRange [(iv 2), (iv 2)] l → ∀ W, GG W → Calls Tryd.prog 7 (packs [(iv 2), (iv 2)] l).toArray W fun e w' => e = .returned (.bool true) ∧ Below W.heap.size W w' :=
  law_of [27, 15, 28, 24, 16, 29, 30, 31, 32] [39, 74, 83, 84] noLoop 100 mixed Tryd.func7 (by kernel_rfl) (forall_cons c27 (forall_cons c15 (forall_cons c28 (forall_cons c24 (forall_cons c16 (forall_cons c29 (forall_cons c30 (forall_cons c31 (forall_cons c32 forall_nil))))))))) fun l0 hl0 => by
    obtain ⟨an, l1, rfl, r0, hl1⟩ := Go.Sx.range_i64 hl0
    obtain ⟨ad, l2, rfl, r1, hl2⟩ := Go.Sx.range_i64 hl1
    obtain ⟨bn, l3, rfl, r2, hl3⟩ := Go.Sx.range_i64 hl2
    obtain ⟨bd, l4, rfl, r3, hl4⟩ := Go.Sx.range_i64 hl3
    cases Go.Sx.range_nil hl4
    clear hl4 hl3 hl2 hl1 hl0
    show T.holds _ _ _ (resQ Φ fun rs => rs = [.bool true])
    rw [t7]
    have fl : vF an ad = true → rFloP an ad = true ∧ rRouP an ad = true := by
      intro h
      rw [vF_iff] at h
      unfold rFloP rRouP
      simp only [Bool.and_eq_true, decide_eq_true_eq, BD]
      omega
    cases v1 : vF an ad with
    | false =>
      simp [v1, two0, awk0, Cmp0, Flo0, Rou0, eql_d]
    | true =>
      obtain ⟨f1, f2⟩ := fl v1
      cases v2 : vF bn bd with
      | false => simp [v1, v2, f1, f2, two0, awk0, Cmp0, Flo0, Rou0, rFlo0, rRou0, eql_d]
      | true => simp [v1, v2, f1, f2, two0, awk0, Cmp0, rCmp0, rCmpP, Flo0, Rou0, rFlo0, rRou0, eql_d]
theorem fractionCompares_lifted (os : Os) (started : os.Started) (H : Type) (enc : TypeId × Value → H) :
    ReturnsInHanded {} Tryd.checked os 7 .any (fun w args => (Rows.fractionComparesSpec.pre enc Tryd.prog Tryd.f7 Rows.fractionComparesRow.domain false w args ∧ laidMet Tryd.prog laidL w) ∧ sizedMet enc Tryd.prog Tryd.f7 (OpenSpec.ofChange Rows.fractionComparesSpec) false w args)
      (Rows.fractionComparesSpec.post enc Tryd.prog Tryd.f7 false true false false) :=
  lawG_lifted (rt := Tryd.f7.resultTypes[0]!) started Tryd.func7 (by kernel_rfl) rfl (ss := [(iv 2), (iv 2)]) (by kernel_rfl) (by kernel_rfl) rfl (by kernel_rfl)
    (fun ds hl => by
      match ds, hl with
      | [d1, d2], _ => exact ⟨rfl, rfl, rfl⟩)
    (ChangeSpec.witness_shaped (enc := enc) (C := Tryd.checked) (os := os) (X := fun w _ => laidMet Tryd.prog laidL w) false (World.doorLaid Tryd.prog 400 os) #[.agg #[.int .i64 0, .int .i64 0], .agg #[.int .i64 0, .int .i64 0]] 8 rfl (World.shaped_of_RefB (by kernel_rfl) (by kernel_rfl)) (by kernel_rfl) (by kernel_rfl) (by kernel_rfl) (door_met os _))
    l7
theorem fractionCompares_said : Rows.FractionComparesSaid :=
  OpenClaim.holds_of_wide 7 Tryd.f7 rfl rfl rfl rfl rfl rfl rfl ⟨rfl, rfl, rfl, rfl, rfl⟩ rfl rfl rfl rfl rfl (by kernel_rfl) Tryd.func7 (by kernel_rfl)
    (of_decide_eq_true (by kernel_rfl)) (by unfold Func.isWrapper; rw [if_neg (of_decide_eq_false (by kernel_rfl))]; exact ⟨rfl, rfl⟩)
    (fun os started H enc _ => fractionCompares_lifted os started H enc)
/-- The statement: Cmp, Floor and Round return the specified numbers, and 0 for what is no fraction. -/
theorem fractionCompares_holds : Rows.FractionComparesCardSaid :=
  Claim7.holds_tied_plain_at .later [] [.data, .data, .data, .sentinel, .sentinel] true (true, "1cd9dce0ac13f553b81852ae08feed0f54c78e7bc9128b095bd4cf0c92103930") true
    fractionCompares_said (fun _ h => by cases h) (by kernel_rfl) (fun _ h => by cases h) fractionCompares_row_tie rfl ⟨rfl, rfl⟩ (by kernel_rfl) rfl
    (fun f fn hf hfn => by
      obtain rfl : f = 7 := Option.some.inj ((show Tryd.prog.funcNamed "gangsaw/gangsawlaw04.FractionCompares" = some 7 by kernel_rfl).symm.trans hf) |>.symm
      obtain rfl : fn = Tryd.f7 := (Option.some.inj (Tryd.func7.symm.trans hfn)).symm
      exact ⟨by kernel_rfl, fun j t ht => by
        have ha : (Tryd.f7.params.toList.all fun t => !Tryd.prog.wantsStandIn t) = true := by kernel_rfl
        have hm : t ∈ Tryd.f7.params.toList := Array.mem_toList_iff.2 (Array.mem_of_getElem? ht)
        have h1 := List.all_eq_true.1 ha t hm
        have h2 : Tryd.prog.wantsStandIn t = false := by simpa using h1
        exact h2⟩)
    (by kernel_rfl)
end Go.Proofs.YtkmffnjmiechfaaDoor
