/- The fraction seat, Text returns the text of a fraction, from which Parse returns it; Parse accepts exactly the texts; for every input, without a condition. -/
import Derived.Test.YtkmffnjmiechfaaDoorFM5
import Derived.Test.YtkmffnjmiechfaaDoorRows
import Derived.Test.YtkmffnjmiechfaaDoorTie
import Derived.Test.YtkmffnjmiechfaaDoorCards
import Derived.SevenTiedAt
namespace Go.Proofs.YtkmffnjmiechfaaDoor
open Go.Sx
set_option linter.unusedVariables false
set_option linter.unusedSimpArgs false
set_option maxRecDepth 100000
open Go.ChangeShapes Go.WideShapes Go.ChangeAt Go.RowKit
theorem t9 (an : Int) (ad : Int) (s : ByteArray) (Q : List Sc → Prop) : (fnT (cfgOf Tryd.prog sigs [16, 35, 36, 37, 24, 38] [39, 74, 83, 84] noLoop) 9 Tryd.f9 (bodyOf Tryd.f9) ⟨[(iv 2), (.one .str)], [sb], none, none, none⟩ 100).holds Φ [.int an, .int ad, .str s] (resQ Φ Q) =
  (cond (cmpI .lss 100 (s.size : Int))
   (Q [.bool awk0])
   (cond (ParP s)
   (cond (rParP s)
   (cond ((cmpI .eql (Par2 s) 0) == (rPar2 s))
    (cond (rPar2 s)
     (cond ((cmpI .eql (Par0 s) (rPar0 s)) && (cmpI .eql (Par1 s) (rPar1 s)))
      (cond (rPar2 s)
       (cond (rVal0 an ad)
        (cond (ParP (Txt0 an ad))
        (cond awk0
         (cond (cmpI .eql (Txt1 an ad) 0)
          (cond (rTxtP an ad)
          (cond ((Txt0 an ad).toList == (rTxt0 an ad).toList)
           (cond (cmpI .eql (Par2 (Txt0 an ad)) 0)
            (Q [.bool ((cmpI .eql (Par0 (Txt0 an ad)) an) && (cmpI .eql (Par1 (Txt0 an ad)) ad))])
            (Q [.bool false]))
           (Q [.bool false]))
          False)
          (Q [.bool false]))
         (Q [.bool false]))
        False)
        (cond awk0
         (cond (cmpI .eql (Txt1 an ad) 1)
          (Q [.bool ((Txt0 an ad).toList == (⟨#[]⟩ : ByteArray).toList)])
          (Q [.bool false]))
         (Q [.bool false])))
       (cond (cmpI .eql (Par2 s) 2)
        (cond ((cmpI .eql (Par0 s) 0) && (cmpI .eql (Par1 s) 0))
         (cond (rVal0 an ad)
          (cond (ParP (Txt0 an ad))
          (cond awk0
           (cond (cmpI .eql (Txt1 an ad) 0)
            (cond (rTxtP an ad)
            (cond ((Txt0 an ad).toList == (rTxt0 an ad).toList)
             (cond (cmpI .eql (Par2 (Txt0 an ad)) 0)
              (Q [.bool ((cmpI .eql (Par0 (Txt0 an ad)) an) && (cmpI .eql (Par1 (Txt0 an ad)) ad))])
              (Q [.bool false]))
             (Q [.bool false]))
            False)
            (Q [.bool false]))
           (Q [.bool false]))
          False)
          (cond awk0
           (cond (cmpI .eql (Txt1 an ad) 1)
            (Q [.bool ((Txt0 an ad).toList == (⟨#[]⟩ : ByteArray).toList)])
            (Q [.bool false]))
           (Q [.bool false])))
         (Q [.bool false]))
        (Q [.bool false])))
      (Q [.bool false]))
     (cond (rPar2 s)
      (cond (rVal0 an ad)
       (cond (ParP (Txt0 an ad))
       (cond awk0
        (cond (cmpI .eql (Txt1 an ad) 0)
         (cond (rTxtP an ad)
         (cond ((Txt0 an ad).toList == (rTxt0 an ad).toList)
          (cond (cmpI .eql (Par2 (Txt0 an ad)) 0)
           (Q [.bool ((cmpI .eql (Par0 (Txt0 an ad)) an) && (cmpI .eql (Par1 (Txt0 an ad)) ad))])
           (Q [.bool false]))
          (Q [.bool false]))
         False)
         (Q [.bool false]))
        (Q [.bool false]))
       False)
       (cond awk0
        (cond (cmpI .eql (Txt1 an ad) 1)
         (Q [.bool ((Txt0 an ad).toList == (⟨#[]⟩ : ByteArray).toList)])
         (Q [.bool false]))
        (Q [.bool false])))
      (cond (cmpI .eql (Par2 s) 2)
       (cond ((cmpI .eql (Par0 s) 0) && (cmpI .eql (Par1 s) 0))
        (cond (rVal0 an ad)
         (cond (ParP (Txt0 an ad))
         (cond awk0
          (cond (cmpI .eql (Txt1 an ad) 0)
           (cond (rTxtP an ad)
           (cond ((Txt0 an ad).toList == (rTxt0 an ad).toList)
            (cond (cmpI .eql (Par2 (Txt0 an ad)) 0)
             (Q [.bool ((cmpI .eql (Par0 (Txt0 an ad)) an) && (cmpI .eql (Par1 (Txt0 an ad)) ad))])
             (Q [.bool false]))
            (Q [.bool false]))
           False)
           (Q [.bool false]))
          (Q [.bool false]))
         False)
         (cond awk0
          (cond (cmpI .eql (Txt1 an ad) 1)
           (Q [.bool ((Txt0 an ad).toList == (⟨#[]⟩ : ByteArray).toList)])
           (Q [.bool false]))
          (Q [.bool false])))
        (Q [.bool false]))
       (Q [.bool false]))))
    (Q [.bool false]))
   False)
   False)) := by kernel_rfl

theorem l9 : ∀ l, InRange [(iv 2), (.one .str)] l → ∀ W, GG W → Calls Tryd.prog 9 (packs [(iv 2), (.one .str)] l).toArray W fun e w' => e = .returned (.bool true) ∧ Below W.heap.size W w' :=
  law_of [16, 35, 36, 37, 24, 38] [39, 74, 83, 84] noLoop 100 mixed Tryd.func9 (by kernel_rfl) (forall_cons c16 (forall_cons c35 (forall_cons c36 (forall_cons c37 (forall_cons c24 (forall_cons c38 forall_nil)))))) fun l0 hl0 => by
    obtain ⟨an, l1, rfl, r0, hl1⟩ := Go.Sx.range_i64 hl0
    obtain ⟨ad, l2, rfl, r1, hl2⟩ := Go.Sx.range_i64 hl1
    obtain ⟨s, l3, rfl, r2, hl3⟩ := Go.Sx.range_str hl2
    cases Go.Sx.range_nil hl3
    clear hl3 hl2 hl1 hl0
    show T.holds _ _ _ (resQ Φ fun rs => rs = [.bool true])
    rw [t9]
    by_cases hs : 100 < (s.size : Int)
    · exact kT (ltT hs) rfl
    · have p1 : ParP s = true := decide_eq_true (by omega)
      have p2 : rParP s = true := decide_eq_true (by omega)
      have hB : (cond (rVal0 an ad)
        (cond (ParP (Txt0 an ad))
        (cond awk0
         (cond (cmpI .eql (Txt1 an ad) 0)
          (cond (rTxtP an ad)
          (cond ((Txt0 an ad).toList == (rTxt0 an ad).toList)
           (cond (cmpI .eql (Par2 (Txt0 an ad)) 0)
            ([Sc.bool ((cmpI .eql (Par0 (Txt0 an ad)) an) && (cmpI .eql (Par1 (Txt0 an ad)) ad))] = [Sc.bool true])
            ([Sc.bool false] = [Sc.bool true]))
           ([Sc.bool false] = [Sc.bool true]))
          False)
          ([Sc.bool false] = [Sc.bool true]))
         ([Sc.bool false] = [Sc.bool true]))
        False)
        (cond awk0
         (cond (cmpI .eql (Txt1 an ad) 1)
          ([Sc.bool ((Txt0 an ad).toList == (⟨#[]⟩ : ByteArray).toList)] = [Sc.bool true])
          ([Sc.bool false] = [Sc.bool true]))
         ([Sc.bool false] = [Sc.bool true]))) := by
        cases v1 : vF an ad with
        | false =>
          have e0 : Txt0 an ad = ⟨#[]⟩ := by show (if vF an ad = true then _ else _) = _; rw [v1]; rfl
          have e1 : Txt1 an ad = 1 := by show (if vF an ad = true then _ else _) = _; rw [v1]; rfl
          refine kF v1 (kT rfl (kT (eqT e1) ?_))
          rw [e0, beq_self_eq_true]
        | true =>
          have e0 : Txt0 an ad = txt an ad := if_pos v1
          have e1 : Txt1 an ad = 0 := if_pos v1
          have hl := txt_len v1
          obtain ⟨a, b, c⟩ := par_yes v1 (rfl : txt an ad = txt an ad)
          rw [e0]
          refine kT v1 (kT (decide_eq_true (by omega)) (kT rfl (kT (eqT e1) (kT v1 (kT (beq_self_eq_true _) (kT (eqT c) ?_))))))
          show [Sc.bool (cmpI .eql (parN (txt an ad)) an && cmpI .eql (parD (txt an ad)) ad)] = _
          rw [eq2T a b]
      refine kF (ltF hs) (kT p1 (kT p2 (kT (beq_self_eq_true _) ?_)))
      rcases par_cases s with h | ⟨a, b, c⟩
      · have r : rPar2 s = true := decide_eq_true h
        exact kT r (kT (eq2T rfl rfl) (kT r hB))
      · have r : rPar2 s = false := decide_eq_false (by rw [c]; decide)
        exact kF r (kF r (kT (eqT c) (kT (eq2T a b) hB)))
theorem fractionTexts_lifted (os : Os) (started : os.Started) (H : Type) (enc : TypeId × Value → H) :
    ReturnsInHanded {} Tryd.checked os 9 .any (fun w args => (Rows.fractionTextsSpec.pre enc Tryd.prog Tryd.f9 Rows.fractionTextsRow.domain false w args ∧ laidMet Tryd.prog laidL w) ∧ sizedMet enc Tryd.prog Tryd.f9 (OpenSpec.ofChange Rows.fractionTextsSpec) false w args)
      (Rows.fractionTextsSpec.post enc Tryd.prog Tryd.f9 false true false false) :=
  lawG_lifted (rt := Tryd.f9.resultTypes[0]!) started Tryd.func9 (by kernel_rfl) rfl (ss := [(iv 2), (.one .str)]) (by kernel_rfl) (by kernel_rfl) rfl (by kernel_rfl)
    (fun ds hl => by
      match ds, hl with
      | [d1, d2], _ => exact ⟨rfl, rfl, rfl⟩)
    (ChangeSpec.witness_shaped (enc := enc) (C := Tryd.checked) (os := os) (X := fun w _ => laidMet Tryd.prog laidL w) false (World.doorLaid Tryd.prog 400 os) #[.agg #[.int .i64 0, .int .i64 0], .string ⟨#[]⟩] 8 rfl (World.shaped_of_RefB (by kernel_rfl) (by kernel_rfl)) (by kernel_rfl) (by kernel_rfl) (by kernel_rfl) (door_met os _))
    l9
theorem fractionTexts_said : Rows.FractionTextsSaid :=
  OpenClaim.holds_of_wide 9 Tryd.f9 rfl rfl rfl rfl rfl rfl rfl ⟨rfl, rfl, rfl, rfl, rfl⟩ rfl rfl rfl rfl rfl (by kernel_rfl) Tryd.func9 (by kernel_rfl)
    (of_decide_eq_true (by kernel_rfl)) (by unfold Func.isWrapper; rw [if_neg (of_decide_eq_false (by kernel_rfl))]; exact ⟨rfl, rfl⟩)
    (fun os started H enc _ => fractionTexts_lifted os started H enc)
/-- The statement: Text returns the text of a fraction, from which Parse returns it; Parse accepts exactly the texts. -/
theorem fractionTexts_holds : Rows.FractionTextsCardSaid :=
  Claim7.holds_tied_plain_at .later [] [.data, .data, .data, .sentinel, .sentinel] true (true, "1cd9dce0ac13f553b81852ae08feed0f54c78e7bc9128b095bd4cf0c92103930") true
    fractionTexts_said (fun _ h => by cases h) (by kernel_rfl) (fun _ h => by cases h) fractionTexts_row_tie rfl ⟨rfl, rfl⟩ (by kernel_rfl) rfl
    (fun f fn hf hfn => by
      obtain rfl : f = 9 := Option.some.inj ((show Tryd.prog.funcNamed "gangsaw/gangsawlaw04.FractionTexts" = some 9 by kernel_rfl).symm.trans hf) |>.symm
      obtain rfl : fn = Tryd.f9 := (Option.some.inj (Tryd.func9.symm.trans hfn)).symm
      exact ⟨by kernel_rfl, fun j t ht => by
        have ha : (Tryd.f9.params.toList.all fun t => !Tryd.prog.wantsStandIn t) = true := by kernel_rfl
        have hm : t ∈ Tryd.f9.params.toList := Array.mem_toList_iff.2 (Array.mem_of_getElem? ht)
        have h1 := List.all_eq_true.1 ha t hm
        have h2 : Tryd.prog.wantsStandIn t = false := by simpa using h1
        exact h2⟩)
    (by kernel_rfl)
end Go.Proofs.YtkmffnjmiechfaaDoor
