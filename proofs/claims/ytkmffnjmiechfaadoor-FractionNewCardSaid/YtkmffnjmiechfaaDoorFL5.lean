/- The fraction seat, Valid accepts exactly the fractions, and New returns a fraction in lowest terms, or the first error; for every input, without a condition. -/
import Derived.Test.YtkmffnjmiechfaaDoorFLaw
import Derived.Test.YtkmffnjmiechfaaDoorRows
import Derived.Test.YtkmffnjmiechfaaDoorTie
import Derived.Test.YtkmffnjmiechfaaDoorCards
import Derived.SevenTiedAt
namespace Go.Proofs.YtkmffnjmiechfaaDoor
open Go.Sx
set_option linter.unusedVariables false
set_option linter.unusedSimpArgs false
set_option maxRecDepth 100000
open Go.ChangeShapes Go.WideShapes Go.ChangeAt Go.RowKit
theorem t5 (num : Int) (den : Int) (fn : Int) (fd : Int) (Q : List Sc → Prop) : (fnT (cfgOf Tryd.prog sigs [21, 22, 16, 23, 24] [39, 74, 83, 84] noLoop) 5 Tryd.f5 (bodyOf Tryd.f5) ⟨[i1, i1, (iv 2)], [sb], none, none, none⟩ 100).holds Φ [.int num, .int den, .int fn, .int fd] (resQ Φ Q) =
  (cond (NewP num den)
  (cond (rNewP num den)
  (cond awk0
   (cond (cmpI .eql (New2 num den) (rNew2 num den))
    (cond ((cmpI .eql (New0 num den) (rNew0 num den)) && (cmpI .eql (New1 num den) (rNew1 num den)))
     (cond ((Val0 fn fd) == (rVal0 fn fd))
      (cond (cmpI .eql (New2 num den) 0)
       (Q [.bool (Val0 (New0 num den) (New1 num den))])
       (Q [.bool true]))
      (Q [.bool false]))
     (Q [.bool false]))
    (Q [.bool false]))
   (Q [.bool false]))
  False)
  False) := by kernel_rfl

theorem l5 : ∀ l, InRange [i1, i1, (iv 2)] l → ∀ W, GG W → Calls Tryd.prog 5 (packs [i1, i1, (iv 2)] l).toArray W fun e w' => e = .returned (.bool true) ∧ Below W.heap.size W w' :=
  law_of [21, 22, 16, 23, 24] [39, 74, 83, 84] noLoop 100 mixed Tryd.func5 (by kernel_rfl) (forall_cons c21 (forall_cons c22 (forall_cons c16 (forall_cons c23 (forall_cons c24 forall_nil))))) fun l0 hl0 => by
    obtain ⟨num, l1, rfl, r0, hl1⟩ := Go.Sx.range_i64 hl0
    obtain ⟨den, l2, rfl, r1, hl2⟩ := Go.Sx.range_i64 hl1
    obtain ⟨fn, l3, rfl, r2, hl3⟩ := Go.Sx.range_i64 hl2
    obtain ⟨fd, l4, rfl, r3, hl4⟩ := Go.Sx.range_i64 hl3
    cases Go.Sx.range_nil hl4
    clear hl4 hl3 hl2 hl1 hl0
    show T.holds _ _ _ (resQ Φ fun rs => rs = [.bool true])
    rw [t5]
    have p1 : NewP num den = true := by unfold NewP; rw [Bool.and_eq_true, ii_iff, ii_iff]; omega
    have p2 : rNewP num den = true := by unfold rNewP; rw [Bool.and_eq_true, ii_iff, ii_iff]; omega
    refine kT p1 (kT p2 (kT rfl (kT (eqT rfl) (kT (eq2T rfl rfl) (kT (beq_self_eq_true _) ?_)))))
    by_cases hd : den = 0
    · have e : New2 num den = 1 := if_neg (by simp [hd])
      exact kF (eqF (by rw [e]; decide)) rfl
    · have e2 : New2 num den = frE (if den < 0 then -num else num) (ab den) := if_pos hd
      have e0 : New0 num den = frN (if den < 0 then -num else num) (ab den) := if_pos hd
      have e1 : New1 num den = frD (if den < 0 then -num else num) (ab den) := if_pos hd
      rcases fr_e (if den < 0 then -num else num) (ab den) with h | h
      · refine kT (eqT (e2.trans h.1)) ?_
        show [Sc.bool (vF (New0 num den) (New1 num den))] = _
        rw [e0, e1, fr_valid (by unfold ab; split <;> omega) h.2]
      · exact kF (eqF (by rw [e2, h.1]; decide)) rfl
theorem fractionNew_lifted (os : Os) (started : os.Started) (H : Type) (enc : TypeId × Value → H) :
    ReturnsInHanded {} Tryd.checked os 5 .any (fun w args => (Rows.fractionNewSpec.pre enc Tryd.prog Tryd.f5 Rows.fractionNewRow.domain false w args ∧ laidMet Tryd.prog laidL w) ∧ sizedMet enc Tryd.prog Tryd.f5 (OpenSpec.ofChange Rows.fractionNewSpec) false w args)
      (Rows.fractionNewSpec.post enc Tryd.prog Tryd.f5 false true false false) :=
  lawG_lifted (rt := Tryd.f5.resultTypes[0]!) started Tryd.func5 (by kernel_rfl) rfl (ss := [i1, i1, (iv 2)]) (by kernel_rfl) (by kernel_rfl) rfl (by kernel_rfl)
    (fun ds hl => by
      match ds, hl with
      | [d1, d2, d3], _ => exact ⟨rfl, rfl, rfl⟩)
    (ChangeSpec.witness_shaped (enc := enc) (C := Tryd.checked) (os := os) (X := fun w _ => laidMet Tryd.prog laidL w) false (World.doorLaid Tryd.prog 400 os) #[.int .i64 0, .int .i64 0, .agg #[.int .i64 0, .int .i64 0]] 8 rfl (World.shaped_of_RefB (by kernel_rfl) (by kernel_rfl)) (by kernel_rfl) (by kernel_rfl) (by kernel_rfl) (door_met os _))
    l5
theorem fractionNew_said : Rows.FractionNewSaid :=
  OpenClaim.holds_of_wide 5 Tryd.f5 rfl rfl rfl rfl rfl rfl rfl ⟨rfl, rfl, rfl, rfl, rfl⟩ rfl rfl rfl rfl rfl (by kernel_rfl) Tryd.func5 (by kernel_rfl)
    (of_decide_eq_true (by kernel_rfl)) (by unfold Func.isWrapper; rw [if_neg (of_decide_eq_false (by kernel_rfl))]; exact ⟨rfl, rfl⟩)
    (fun os started H enc _ => fractionNew_lifted os started H enc)
/-- The statement: Valid accepts exactly the fractions, and New returns a fraction in lowest terms, or the first error. -/
theorem fractionNew_holds : Rows.FractionNewCardSaid :=
  Claim7.holds_tied_plain_at .later [] [.data, .data, .data, .sentinel, .sentinel] true (true, "1cd9dce0ac13f553b81852ae08feed0f54c78e7bc9128b095bd4cf0c92103930") true
    fractionNew_said (fun _ h => by cases h) (by kernel_rfl) (fun _ h => by cases h) fractionNew_row_tie rfl ⟨rfl, rfl⟩ (by kernel_rfl) rfl
    (fun f fn hf hfn => by
      obtain rfl : f = 5 := Option.some.inj ((show Tryd.prog.funcNamed "gangsaw/gangsawlaw04.FractionNew" = some 5 by kernel_rfl).symm.trans hf) |>.symm
      obtain rfl : fn = Tryd.f5 := (Option.some.inj (Tryd.func5.symm.trans hfn)).symm
      exact ⟨by kernel_rfl, fun j t ht => by
        have ha : (Tryd.f5.params.toList.all fun t => !Tryd.prog.wantsStandIn t) = true := by kernel_rfl
        have hm : t ∈ Tryd.f5.params.toList := Array.mem_toList_iff.2 (Array.mem_of_getElem? ht)
        have h1 := List.all_eq_true.1 ha t hm
        have h2 : Tryd.prog.wantsStandIn t = false := by simpa using h1
        exact h2⟩)
    (by kernel_rfl)
end Go.Proofs.YtkmffnjmiechfaaDoor
