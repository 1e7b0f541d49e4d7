/- The fraction seat, Simplest returns the simplest fraction of a range, or the first error; for every input, without a condition. -/
import Derived.Test.YtkmffnjmiechfaaDoorFM5
import Derived.Test.YtkmffnjmiechfaaDoorRows
import Derived.Test.YtkmffnjmiechfaaDoorTie
import Derived.Test.YtkmffnjmiechfaaDoorCards
import Derived.SevenTiedAt
namespace Go.Proofs.YtkmffnjmiechfaaDoor
open Go.Sx
set_option linter.unusedVariables false
set_option linter.unusedSimpArgs false
set_option maxRecDepth 100000
open Go.ChangeShapes Go.WideShapes Go.ChangeAt Go.RowKit
theorem t8 (an : Int) (ad : Int) (bn : Int) (bd : Int) (cn : Int) (cd : Int) (Q : List Sc → Prop) : (fnT (cfgOf Tryd.prog sigs [33, 15, 28, 16, 34, 27, 24] [39, 74, 83, 84] noLoop) 8 Tryd.f8 (bodyOf Tryd.f8) ⟨[(iv 2), (iv 2), (iv 2)], [sb], none, none, none⟩ 100).holds Φ [.int an, .int ad, .int bn, .int bd, .int cn, .int cd] (resQ Φ Q) =
  (cond (two0 an ad bn bd)
   (cond (rCmpP an ad bn bd)
   (cond (cmpI .lss 0 (rCmp0 an ad bn bd))
    (cond awk0
     (cond (cmpI .eql (Sim2 an ad bn bd) 1)
      (Q [.bool ((cmpI .eql (Sim0 an ad bn bd) 0) && (cmpI .eql (Sim1 an ad bn bd) 0))])
      (Q [.bool false]))
     (Q [.bool false]))
    (cond (cmpI .eql (Sim2 an ad bn bd) 0)
     (cond (rSimP an ad bn bd)
     (cond ((cmpI .eql (Sim0 an ad bn bd) (rSim0 an ad bn bd)) && (cmpI .eql (Sim1 an ad bn bd) (rSim1 an ad bn bd)))
      (cond (cmpI .lss 0 (Cmp0 an ad (Sim0 an ad bn bd) (Sim1 an ad bn bd)))
       (Q [.bool false])
       (cond (cmpI .lss 0 (Cmp0 (Sim0 an ad bn bd) (Sim1 an ad bn bd) bn bd))
        (Q [.bool false])
        (cond (rVal0 cn cd)
         (cond (rCmpP bn bd cn cd)
         (cond (cmpI .lss 0 (rCmp0 bn bd cn cd))
          (Q [.bool awk0])
          (cond awk0
           (cond (cmpI .eql (Sim2 an ad cn cd) 0)
            (Q [.bool (!(cmpI .lss (Sim1 an ad bn bd) (Sim1 an ad cn cd)))])
            (Q [.bool false]))
           (Q [.bool false])))
         False)
         (Q [.bool awk0]))))
      (Q [.bool false]))
     False)
     (Q [.bool false])))
   False)
   (cond awk0
    (cond (cmpI .eql (Sim2 an ad bn bd) 1)
     (Q [.bool ((cmpI .eql (Sim0 an ad bn bd) 0) && (cmpI .eql (Sim1 an ad bn bd) 0))])
     (Q [.bool false]))
    (Q [.bool false]))) := by kernel_rfl

theorem l8 : ∀ l, InRange [(iv 2), (iv 2), (iv 2)] l → ∀ W, GG W → Calls Tryd.prog 8 (packs [(iv 2), (iv 2), (iv 2)] l).toArray W fun e w' => e = .returned (.bool true) ∧ Below W.heap.size W w' :=
  law_of [33, 15, 28, 16, 34, 27, 24] [39, 74, 83, 84] noLoop 100 mixed Tryd.func8 (by kernel_rfl) (forall_cons c33 (forall_cons c15 (forall_cons c28 (forall_cons c16 (forall_cons c34 (forall_cons c27 (forall_cons c24 forall_nil))))))) fun l0 hl0 => by
    obtain ⟨an, l1, rfl, r0, hl1⟩ := Go.Sx.range_i64 hl0
    obtain ⟨ad, l2, rfl, r1, hl2⟩ := Go.Sx.range_i64 hl1
    obtain ⟨bn, l3, rfl, r2, hl3⟩ := Go.Sx.range_i64 hl2
    obtain ⟨bd, l4, rfl, r3, hl4⟩ := Go.Sx.range_i64 hl3
    obtain ⟨cn, l5, rfl, r4, hl5⟩ := Go.Sx.range_i64 hl4
    obtain ⟨cd, l6, rfl, r5, hl6⟩ := Go.Sx.range_i64 hl5
    cases Go.Sx.range_nil hl6
    clear hl6 hl5 hl4 hl3 hl2 hl1 hl0
    show T.holds _ _ _ (resQ Φ fun rs => rs = [.bool true])
    rw [t8]
    cases v1 : vF an ad with
    | false =>
      have e : two0 an ad bn bd = false := by show (vF an ad && vF bn bd) = false; rw [v1]; rfl
      exact kF e (by simp [awk0, Sim0, Sim1, Sim2, v1, eql_d])
    | true =>
      cases v2 : vF bn bd with
      | false =>
        have e : two0 an ad bn bd = false := by show (vF an ad && vF bn bd) = false; rw [v1, v2]; rfl
        exact kF e (by simp [awk0, Sim0, Sim1, Sim2, v1, v2, eql_d])
      | true =>
        have hvv : (vF an ad && vF bn bd) = true := by rw [v1, v2]; rfl
        refine kT hvv (kT hvv ?_)
        by_cases c : an * bd ≤ bn * ad
        · have hS : (vF an ad && vF bn bd) = true ∧ an * bd ≤ bn * ad := ⟨hvv, c⟩
          have e0 : Sim0 an ad bn bd = simX an ad bn bd := if_pos hS
          have e1 : Sim1 an ad bn bd = simY an ad bn bd := if_pos hS
          have e2 : Sim2 an ad bn bd = 0 := if_pos hS
          have rg := sim_range v1 v2 c
          have cz : ∀ a A b B : Int, a * B ≤ b * A → ¬ 0 < Cmp0 a A b B := by
            intro a A b B h hn
            have h' : 0 < (if (vF a A && vF b B) = true then cmp3 (a * B) (b * A) else 0) := hn
            split at h'
            · rw [cmp3_pos] at h'; omega
            · omega
          have p1 : rSimP an ad bn bd = true := by show (vF an ad && vF bn bd && decide (an * bd ≤ bn * ad)) = true; rw [hvv, decide_eq_true c]; rfl
          refine kF (ltF (fun h => by rw [show rCmp0 an ad bn bd = cmp3 (an * bd) (bn * ad) from rfl, cmp3_pos] at h; omega)) (kT (eqT e2) (kT p1 (kT (eq2T e0 e1) ?_)))
          rw [e0, e1]
          refine kF (ltF (cz _ _ _ _ rg.1)) (kF (ltF (cz _ _ _ _ rg.2.1)) ?_)
          cases v3 : vF cn cd with
          | false => exact kF v3 rfl
          | true =>
            have hvc : (vF bn bd && vF cn cd) = true := by rw [v2, v3]; rfl
            refine kT v3 (kT hvc ?_)
            by_cases c' : bn * cd ≤ cn * bd
            · obtain ⟨w1, w2⟩ := sim_wide v1 v2 v3 c c'
              have hac : (vF an ad && vF cn cd) = true ∧ an * cd ≤ cn * ad := ⟨by rw [v1, v3]; rfl, w1⟩
              have f1 : Sim1 an ad cn cd = simY an ad cn cd := if_pos hac
              have f2 : Sim2 an ad cn cd = 0 := if_pos hac
              refine kF (ltF (fun h => by rw [show rCmp0 bn bd cn cd = cmp3 (bn * cd) (cn * bd) from rfl, cmp3_pos] at h; omega)) (kT rfl (kT (eqT f2) ?_))
              rw [f1, ltF (by omega)]
              rfl
            · exact kT (ltT (by rw [show rCmp0 bn bd cn cd = cmp3 (bn * cd) (cn * bd) from rfl, cmp3_pos]; omega)) rfl
        · have e : ¬ ((vF an ad && vF bn bd) = true ∧ an * bd ≤ bn * ad) := fun h => c h.2
          have e0 : Sim0 an ad bn bd = 0 := if_neg e
          have e1 : Sim1 an ad bn bd = 0 := if_neg e
          have e2 : Sim2 an ad bn bd = 1 := if_neg e
          refine kT (ltT (by rw [show rCmp0 an ad bn bd = cmp3 (an * bd) (bn * ad) from rfl, cmp3_pos]; omega)) (kT rfl (kT (eqT e2) ?_))
          rw [e0, e1]
          rfl
theorem fractionSimplest_lifted (os : Os) (started : os.Started) (H : Type) (enc : TypeId × Value → H) :
    ReturnsInHanded {} Tryd.checked os 8 .any (fun w args => (Rows.fractionSimplestSpec.pre enc Tryd.prog Tryd.f8 Rows.fractionSimplestRow.domain false w args ∧ laidMet Tryd.prog laidL w) ∧ sizedMet enc Tryd.prog Tryd.f8 (OpenSpec.ofChange Rows.fractionSimplestSpec) false w args)
      (Rows.fractionSimplestSpec.post enc Tryd.prog Tryd.f8 false true false false) :=
  lawG_lifted (rt := Tryd.f8.resultTypes[0]!) started Tryd.func8 (by kernel_rfl) rfl (ss := [(iv 2), (iv 2), (iv 2)]) (by kernel_rfl) (by kernel_rfl) rfl (by kernel_rfl)
    (fun ds hl => by
      match ds, hl with
      | [d1, d2, d3], _ => exact ⟨rfl, rfl, rfl⟩)
    (ChangeSpec.witness_shaped (enc := enc) (C := Tryd.checked) (os := os) (X := fun w _ => laidMet Tryd.prog laidL w) false (World.doorLaid Tryd.prog 400 os) #[.agg #[.int .i64 0, .int .i64 0], .agg #[.int .i64 0, .int .i64 0], .agg #[.int .i64 0, .int .i64 0]] 8 rfl (World.shaped_of_RefB (by kernel_rfl) (by kernel_rfl)) (by kernel_rfl) (by kernel_rfl) (by kernel_rfl) (door_met os _))
    l8
theorem fractionSimplest_said : Rows.FractionSimplestSaid :=
  OpenClaim.holds_of_wide 8 Tryd.f8 rfl rfl rfl rfl rfl rfl rfl ⟨rfl, rfl, rfl, rfl, rfl⟩ rfl rfl rfl rfl rfl (by kernel_rfl) Tryd.func8 (by kernel_rfl)
    (of_decide_eq_true (by kernel_rfl)) (by unfold Func.isWrapper; rw [if_neg (of_decide_eq_false (by kernel_rfl))]; exact ⟨rfl, rfl⟩)
    (fun os started H enc _ => fractionSimplest_lifted os started H enc)
/-- The statement: Simplest returns the simplest fraction of a range, or the first error. -/
theorem fractionSimplest_holds : Rows.FractionSimplestCardSaid :=
  Claim7.holds_tied_plain_at .later [] [.data, .data, .data, .sentinel, .sentinel] true (true, "1cd9dce0ac13f553b81852ae08feed0f54c78e7bc9128b095bd4cf0c92103930") true
    fractionSimplest_said (fun _ h => by cases h) (by kernel_rfl) (fun _ h => by cases h) fractionSimplest_row_tie rfl ⟨rfl, rfl⟩ (by kernel_rfl) rfl
    (fun f fn hf hfn => by
      obtain rfl : f = 8 := Option.some.inj ((show Tryd.prog.funcNamed "gangsaw/gangsawlaw04.FractionSimplest" = some 8 by kernel_rfl).symm.trans hf) |>.symm
      obtain rfl : fn = Tryd.f8 := (Option.some.inj (Tryd.func8.symm.trans hfn)).symm
      exact ⟨by kernel_rfl, fun j t ht => by
        have ha : (Tryd.f8.params.toList.all fun t => !Tryd.prog.wantsStandIn t) = true := by kernel_rfl
        have hm : t ∈ Tryd.f8.params.toList := Array.mem_toList_iff.2 (Array.mem_of_getElem? ht)
        have h1 := List.all_eq_true.1 ha t hm
        have h2 : Tryd.prog.wantsStandIn t = false := by simpa using h1
        exact h2⟩)
    (by kernel_rfl)
end Go.Proofs.YtkmffnjmiechfaaDoor
