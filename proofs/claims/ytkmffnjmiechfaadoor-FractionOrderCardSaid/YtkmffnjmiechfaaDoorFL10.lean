/- The fraction seat, Cmp is a total order that Add and Floor respect; for every input, without a condition. -/
import Derived.Test.YtkmffnjmiechfaaDoorFM5
import Derived.Test.YtkmffnjmiechfaaDoorRows
import Derived.Test.YtkmffnjmiechfaaDoorTie
import Derived.Test.YtkmffnjmiechfaaDoorCards
import Derived.SevenTiedAt
namespace Go.Proofs.YtkmffnjmiechfaaDoor
open Go.Sx
set_option linter.unusedVariables false
set_option linter.unusedSimpArgs false
set_option maxRecDepth 100000
open Go.ChangeShapes Go.WideShapes Go.ChangeAt Go.RowKit
theorem t10 (an : Int) (ad : Int) (bn : Int) (bd : Int) (cn : Int) (cd : Int) (Q : List Sc → Prop) : (fnT (cfgOf Tryd.prog sigs [23, 16, 27, 11, 29, 30] [39, 74, 83, 84] noLoop) 10 Tryd.f10 (bodyOf Tryd.f10) ⟨[(iv 2), (iv 2), (iv 2)], [sb], none, none, none⟩ 100).holds Φ [.int an, .int ad, .int bn, .int bd, .int cn, .int cd] (resQ Φ Q) =
  (cond (Val0 an ad)
   (cond (Val0 bn bd)
    (cond (Val0 cn cd)
     (cond (cmpI .eql (Cmp0 an ad bn bd) (arI .sub .i64 0 (Cmp0 bn bd an ad)))
      (cond ((cmpI .eql (Cmp0 an ad bn bd) 0) == ((cmpI .eql an bn) && (cmpI .eql ad bd)))
       (cond (cmpI .lss 0 (Cmp0 an ad bn bd))
        (cond (cmpI .eql (Add2 an ad cn cd) 0)
         (cond (cmpI .eql (Add2 bn bd cn cd) 0)
          (cond (cmpI .eql (Cmp0 (Add0 an ad cn cd) (Add1 an ad cn cd) (Add0 bn bd cn cd) (Add1 bn bd cn cd)) (Cmp0 an ad bn bd))
           (cond awk0
            (cond (cmpI .eql (Rou0 an ad) (Flo0 an ad))
             (Q [.bool true])
             (Q [.bool (cmpI .eql (Rou0 an ad) (arI .add .i64 (Flo0 an ad) 1))]))
            (Q [.bool false]))
           (Q [.bool false]))
          (cond awk0
           (cond (cmpI .eql (Rou0 an ad) (Flo0 an ad))
            (Q [.bool true])
            (Q [.bool (cmpI .eql (Rou0 an ad) (arI .add .i64 (Flo0 an ad) 1))]))
           (Q [.bool false])))
         (cond awk0
          (cond (cmpI .eql (Rou0 an ad) (Flo0 an ad))
           (Q [.bool true])
           (Q [.bool (cmpI .eql (Rou0 an ad) (arI .add .i64 (Flo0 an ad) 1))]))
          (Q [.bool false])))
        (cond (cmpI .lss 0 (Cmp0 bn bd cn cd))
         (cond (cmpI .eql (Add2 an ad cn cd) 0)
          (cond (cmpI .eql (Add2 bn bd cn cd) 0)
           (cond (cmpI .eql (Cmp0 (Add0 an ad cn cd) (Add1 an ad cn cd) (Add0 bn bd cn cd) (Add1 bn bd cn cd)) (Cmp0 an ad bn bd))
            (cond awk0
             (cond (cmpI .lss (Flo0 bn bd) (Flo0 an ad))
              (Q [.bool false])
              (cond (cmpI .lss (Rou0 bn bd) (Rou0 an ad))
               (Q [.bool false])
               (cond (cmpI .eql (Rou0 an ad) (Flo0 an ad))
                (Q [.bool true])
                (Q [.bool (cmpI .eql (Rou0 an ad) (arI .add .i64 (Flo0 an ad) 1))]))))
             (Q [.bool false]))
            (Q [.bool false]))
           (cond awk0
            (cond (cmpI .lss (Flo0 bn bd) (Flo0 an ad))
             (Q [.bool false])
             (cond (cmpI .lss (Rou0 bn bd) (Rou0 an ad))
              (Q [.bool false])
              (cond (cmpI .eql (Rou0 an ad) (Flo0 an ad))
               (Q [.bool true])
               (Q [.bool (cmpI .eql (Rou0 an ad) (arI .add .i64 (Flo0 an ad) 1))]))))
            (Q [.bool false])))
          (cond awk0
           (cond (cmpI .lss (Flo0 bn bd) (Flo0 an ad))
            (Q [.bool false])
            (cond (cmpI .lss (Rou0 bn bd) (Rou0 an ad))
             (Q [.bool false])
             (cond (cmpI .eql (Rou0 an ad) (Flo0 an ad))
              (Q [.bool true])
              (Q [.bool (cmpI .eql (Rou0 an ad) (arI .add .i64 (Flo0 an ad) 1))]))))
           (Q [.bool false])))
         (cond (cmpI .lss 0 (Cmp0 an ad cn cd))
          (Q [.bool false])
          (cond (cmpI .eql (Add2 an ad cn cd) 0)
           (cond (cmpI .eql (Add2 bn bd cn cd) 0)
            (cond (cmpI .eql (Cmp0 (Add0 an ad cn cd) (Add1 an ad cn cd) (Add0 bn bd cn cd) (Add1 bn bd cn cd)) (Cmp0 an ad bn bd))
             (cond awk0
              (cond (cmpI .lss (Flo0 bn bd) (Flo0 an ad))
               (Q [.bool false])
               (cond (cmpI .lss (Rou0 bn bd) (Rou0 an ad))
                (Q [.bool false])
                (cond (cmpI .eql (Rou0 an ad) (Flo0 an ad))
                 (Q [.bool true])
                 (Q [.bool (cmpI .eql (Rou0 an ad) (arI .add .i64 (Flo0 an ad) 1))]))))
              (Q [.bool false]))
             (Q [.bool false]))
            (cond awk0
             (cond (cmpI .lss (Flo0 bn bd) (Flo0 an ad))
              (Q [.bool false])
              (cond (cmpI .lss (Rou0 bn bd) (Rou0 an ad))
               (Q [.bool false])
               (cond (cmpI .eql (Rou0 an ad) (Flo0 an ad))
                (Q [.bool true])
                (Q [.bool (cmpI .eql (Rou0 an ad) (arI .add .i64 (Flo0 an ad) 1))]))))
             (Q [.bool false])))
           (cond awk0
            (cond (cmpI .lss (Flo0 bn bd) (Flo0 an ad))
             (Q [.bool false])
             (cond (cmpI .lss (Rou0 bn bd) (Rou0 an ad))
              (Q [.bool false])
              (cond (cmpI .eql (Rou0 an ad) (Flo0 an ad))
               (Q [.bool true])
               (Q [.bool (cmpI .eql (Rou0 an ad) (arI .add .i64 (Flo0 an ad) 1))]))))
            (Q [.bool false]))))))
       (Q [.bool false]))
      (Q [.bool false]))
     (Q [.bool awk0]))
    (Q [.bool awk0]))
   (Q [.bool awk0])) := by kernel_rfl

theorem l10 : ∀ l, InRange [(iv 2), (iv 2), (iv 2)] l → ∀ W, GG W → Calls Tryd.prog 10 (packs [(iv 2), (iv 2), (iv 2)] l).toArray W fun e w' => e = .returned (.bool true) ∧ Below W.heap.size W w' :=
  law_of [23, 16, 27, 11, 29, 30] [39, 74, 83, 84] noLoop 100 mixed Tryd.func10 (by kernel_rfl) (forall_cons c23 (forall_cons c16 (forall_cons c27 (forall_cons c11 (forall_cons c29 (forall_cons c30 forall_nil)))))) fun l0 hl0 => by
    obtain ⟨an, l1, rfl, r0, hl1⟩ := Go.Sx.range_i64 hl0
    obtain ⟨ad, l2, rfl, r1, hl2⟩ := Go.Sx.range_i64 hl1
    obtain ⟨bn, l3, rfl, r2, hl3⟩ := Go.Sx.range_i64 hl2
    obtain ⟨bd, l4, rfl, r3, hl4⟩ := Go.Sx.range_i64 hl3
    obtain ⟨cn, l5, rfl, r4, hl5⟩ := Go.Sx.range_i64 hl4
    obtain ⟨cd, l6, rfl, r5, hl6⟩ := Go.Sx.range_i64 hl5
    cases Go.Sx.range_nil hl6
    clear hl6 hl5 hl4 hl3 hl2 hl1 hl0
    show T.holds _ _ _ (resQ Φ fun rs => rs = [.bool true])
    rw [t10]
    cases v1 : vF an ad with
    | false => exact kF v1 rfl
    | true =>
      cases v2 : vF bn bd with
      | false => exact kT v1 (kF v2 rfl)
      | true =>
        cases v3 : vF cn cd with
        | false => exact kT v1 (kT v2 (kF v3 rfl))
        | true =>
          have w1 := v1
          have w2 := v2
          have w3 := v3
          rw [vF_iff] at w1 w2 w3
          have ec : ∀ a A b B : Int, vF a A = true → vF b B = true → Cmp0 a A b B = cmp3 (a * B) (b * A) := fun a A b B h h' => if_pos (by rw [h, h']; rfl)
          have eF : ∀ a A : Int, vF a A = true → Flo0 a A = a / A := fun a A h => if_pos h
          have eR : ∀ a A : Int, vF a A = true → Rou0 a A = rnd a A := fun a A h => if_pos h
          have hP1 : (cond (cmpI .eql (Rou0 an ad) (Flo0 an ad))
             ([Sc.bool true] = [Sc.bool true])
             ([Sc.bool (cmpI .eql (Rou0 an ad) (arI .add .i64 (Flo0 an ad) 1))] = [Sc.bool true])) := by
            rw [eF an ad v1, eR an ad v1]
            have fb : -1000000000000000000 ≤ an / ad ∧ an / ad ≤ 1000000000000000000 := by
              constructor
              · exact Int.le_ediv_of_mul_le (by omega) (by omega)
              · have := Int.ediv_lt_of_lt_mul (show 0 < ad by omega) (show an < 1000000000000000000 * ad by omega)
                omega
            rcases rnd_floor (n := an) (d := ad) (by omega) with h | h
            · exact kT (eqT h) rfl
            · refine kF (eqF (by omega)) ?_
              rw [ar_add (by omega) (by omega), eqT h]
          have hadd : ∀ F : Prop, F → cond (cmpI .eql (Add2 an ad cn cd) 0) (cond (cmpI .eql (Add2 bn bd cn cd) 0) (cond (cmpI .eql (Cmp0 (Add0 an ad cn cd) (Add1 an ad cn cd) (Add0 bn bd cn cd) (Add1 bn bd cn cd)) (Cmp0 an ad bn bd)) F ([Sc.bool false] = [Sc.bool true])) F) F := by
            intro F hF
            have hac : (vF an ad && vF cn cd) = true := by rw [v1, v3]; rfl
            have hbc : (vF bn bd && vF cn cd) = true := by rw [v2, v3]; rfl
            have a0 : Add0 an ad cn cd = frN (an * cd + cn * ad) (ad * cd) := if_pos hac
            have a1 : Add1 an ad cn cd = frD (an * cd + cn * ad) (ad * cd) := if_pos hac
            have a2 : Add2 an ad cn cd = frE (an * cd + cn * ad) (ad * cd) := if_pos hac
            have b0 : Add0 bn bd cn cd = frN (bn * cd + cn * bd) (bd * cd) := if_pos hbc
            have b1 : Add1 bn bd cn cd = frD (bn * cd + cn * bd) (bd * cd) := if_pos hbc
            have b2 : Add2 bn bd cn cd = frE (bn * cd + cn * bd) (bd * cd) := if_pos hbc
            rw [a0, a1, a2, b0, b1, b2]
            have D1 : 0 < ad * cd := Int.mul_pos (by omega) (by omega)
            have D2 : 0 < bd * cd := Int.mul_pos (by omega) (by omega)
            rcases fr_e (an * cd + cn * ad) (ad * cd) with h | h
            · rw [h.1]
              rcases fr_e (bn * cd + cn * bd) (bd * cd) with g | g
              · rw [g.1]
                refine kT rfl (kT rfl (kT (eqT ?_) hF))
                have q1 := fr_val D1 h.2
                have q2 := fr_val D2 g.2
                rw [ec _ _ _ _ (fr_valid D1 h.2) (fr_valid D2 g.2), ec _ _ _ _ v1 v2]
                exact cmp_add (by omega) (by omega) (by omega) q1.2 q2.2 q1.1 q2.1
              · rw [g.1]
                exact kT rfl (kF rfl hF)
            · rw [h.1]
              exact kF rfl hF
          refine kT v1 (kT v2 (kT v3 ?_))
          have xb := cmp3_bd (bn * ad) (an * bd)
          have x1 := cmp3_neg (an * bd) (bn * ad)
          refine kT (eqT (by rw [ec _ _ _ _ v1 v2, ec _ _ _ _ v2 v1, ar_sub (by omega) (by omega)]; omega)) (kT ?_ ?_)
          · have : (cmpI .eql (Cmp0 an ad bn bd) 0) = (cmpI .eql an bn && cmpI .eql ad bd) := by
              rw [ec _ _ _ _ v1 v2]
              by_cases h : an * bd = bn * ad
              · obtain ⟨h1, h2⟩ := frac_eq v1 v2 h
                rw [eqT ((cmp3_zero _ _).2 h), eq2T h1 h2]
              · rw [eqF (fun hz => h ((cmp3_zero _ _).1 hz))]
                by_cases h1 : an = bn
                · have h2 : ad ≠ bd := fun h2 => h (by rw [h1, h2])
                  rw [eqF h2, Bool.and_false]
                · rw [eqF h1]; rfl
            rw [this]
            exact beq_self_eq_true _
          · by_cases x0 : 0 < Cmp0 an ad bn bd
            · exact kT (ltT x0) (hadd _ (kT rfl hP1))
            · refine kF (ltF x0) ?_
              rw [ec _ _ _ _ v1 v2, cmp3_pos] at x0
              have hP2 : (cond (cmpI .lss (Flo0 bn bd) (Flo0 an ad))
              ([Sc.bool false] = [Sc.bool true])
              (cond (cmpI .lss (Rou0 bn bd) (Rou0 an ad))
               ([Sc.bool false] = [Sc.bool true])
               (cond (cmpI .eql (Rou0 an ad) (Flo0 an ad))
                ([Sc.bool true] = [Sc.bool true])
                ([Sc.bool (cmpI .eql (Rou0 an ad) (arI .add .i64 (Flo0 an ad) 1))] = [Sc.bool true])))) := by
                rw [eF an ad v1, eR an ad v1, eF bn bd v2, eR bn bd v2]
                have m1 := floor_mono (a := an) (A := ad) (b := bn) (B := bd) (by omega) (by omega) (by omega)
                have m2 := rnd_mono (a := an) (A := ad) (b := bn) (B := bd) (by omega) (by omega) (by omega)
                rw [eF an ad v1, eR an ad v1] at hP1
                exact kF (ltF (by omega)) (kF (ltF (by omega)) hP1)
              by_cases y0 : 0 < Cmp0 bn bd cn cd
              · exact kT (ltT y0) (hadd _ (kT rfl hP2))
              · refine kF (ltF y0) (kF (ltF ?_) (hadd _ (kT rfl hP2)))
                rw [ec _ _ _ _ v2 v3, cmp3_pos] at y0
                rw [ec _ _ _ _ v1 v3, cmp3_pos]
                have := tri (a := an) (b := bn) (c := cn) (A := ad) (B := bd) (C := cd) (by omega) (by omega) (by omega) (by omega) (by omega)
                omega
theorem fractionOrder_lifted (os : Os) (started : os.Started) (H : Type) (enc : TypeId × Value → H) :
    ReturnsInHanded {} Tryd.checked os 10 .any (fun w args => (Rows.fractionOrderSpec.pre enc Tryd.prog Tryd.f10 Rows.fractionOrderRow.domain false w args ∧ laidMet Tryd.prog laidL w) ∧ sizedMet enc Tryd.prog Tryd.f10 (OpenSpec.ofChange Rows.fractionOrderSpec) false w args)
      (Rows.fractionOrderSpec.post enc Tryd.prog Tryd.f10 false true false false) :=
  lawG_lifted (rt := Tryd.f10.resultTypes[0]!) started Tryd.func10 (by kernel_rfl) rfl (ss := [(iv 2), (iv 2), (iv 2)]) (by kernel_rfl) (by kernel_rfl) rfl (by kernel_rfl)
    (fun ds hl => by
      match ds, hl with
      | [d1, d2, d3], _ => exact ⟨rfl, rfl, rfl⟩)
    (ChangeSpec.witness_shaped (enc := enc) (C := Tryd.checked) (os := os) (X := fun w _ => laidMet Tryd.prog laidL w) false (World.doorLaid Tryd.prog 400 os) #[.agg #[.int .i64 0, .int .i64 0], .agg #[.int .i64 0, .int .i64 0], .agg #[.int .i64 0, .int .i64 0]] 8 rfl (World.shaped_of_RefB (by kernel_rfl) (by kernel_rfl)) (by kernel_rfl) (by kernel_rfl) (by kernel_rfl) (door_met os _))
    l10
theorem fractionOrder_said : Rows.FractionOrderSaid :=
  OpenClaim.holds_of_wide 10 Tryd.f10 rfl rfl rfl rfl rfl rfl rfl ⟨rfl, rfl, rfl, rfl, rfl⟩ rfl rfl rfl rfl rfl (by kernel_rfl) Tryd.func10 (by kernel_rfl)
    (of_decide_eq_true (by kernel_rfl)) (by unfold Func.isWrapper; rw [if_neg (of_decide_eq_false (by kernel_rfl))]; exact ⟨rfl, rfl⟩)
    (fun os started H enc _ => fractionOrder_lifted os started H enc)
/-- The statement: Cmp is a total order that Add and Floor respect. -/
theorem fractionOrder_holds : Rows.FractionOrderCardSaid :=
  Claim7.holds_tied_plain_at .later [] [.data, .data, .data, .sentinel, .sentinel] true (true, "1cd9dce0ac13f553b81852ae08feed0f54c78e7bc9128b095bd4cf0c92103930") true
    fractionOrder_said (fun _ h => by cases h) (by kernel_rfl) (fun _ h => by cases h) fractionOrder_row_tie rfl ⟨rfl, rfl⟩ (by kernel_rfl) rfl
    (fun f fn hf hfn => by
      obtain rfl : f = 10 := Option.some.inj ((show Tryd.prog.funcNamed "gangsaw/gangsawlaw04.FractionOrder" = some 10 by kernel_rfl).symm.trans hf) |>.symm
      obtain rfl : fn = Tryd.f10 := (Option.some.inj (Tryd.func10.symm.trans hfn)).symm
      exact ⟨by kernel_rfl, fun j t ht => by
        have ha : (Tryd.f10.params.toList.all fun t => !Tryd.prog.wantsStandIn t) = true := by kernel_rfl
        have hm : t ∈ Tryd.f10.params.toList := Array.mem_toList_iff.2 (Array.mem_of_getElem? ht)
        have h1 := List.all_eq_true.1 ha t hm
        have h2 : Tryd.prog.wantsStandIn t = false := by simpa using h1
        exact h2⟩)
    (by kernel_rfl)
end Go.Proofs.YtkmffnjmiechfaaDoor
