/- The codec seat: for all strings, Digest returns the specified digest; for every input, without a condition. -/
import Derived.Test.YtcmphojichgfeaaDoorCG2
import Derived.Test.YtcmphojichgfeaaDoorCW9
import Derived.Test.YtcmphojichgfeaaDoorCP9
import Derived.Test.YtcmphojichgfeaaDoorRows
import Derived.Test.YtcmphojichgfeaaDoorTie
import Derived.Test.YtcmphojichgfeaaDoorCards
import Derived.SevenTiedAt
namespace Go.Proofs.YtcmphojichgfeaaDoor
open Go.ChangeShapes Go.WideShapes Go.ChangeAt Go.RowKit QC Go.Proofs.YtcmphojichgfeaaDoorW.PrintWords
set_option linter.unusedVariables false
set_option linter.unusedSimpArgs false
set_option maxRecDepth 100000
theorem law9 (a0 : ByteArray) : ∃ k, gangsawlaw02_CodecDigests.f k a0 = some true := by
  by_cases h : (a0.size : Int) > 1000
  · refine ⟨0, ?_⟩
    unfold gangsawlaw02_CodecDigests.f gangsawlaw02_awake.f
    simp [h]
  · refine ⟨0 + a0.size + 18, ?_⟩
    have e1 : codec_Digest.f a0 = some (digB a0) := by unfold codec_Digest.f; rw [if_pos (by omega)]
    unfold gangsawlaw02_CodecDigests.f gangsawlaw02_awake.f
    rw [e1, refDigest a0 (by omega) 0]
    simp [h]
theorem codecDigests_lifted (os : Os) (started : os.Started) (H : Type) (enc : TypeId × Value → H) :
    ReturnsInHanded {} Tryd.checked os 9 .any (fun w args => (Rows.codecDigestsSpec.pre enc Tryd.prog Tryd.f9 Rows.codecDigestsRow.domain false w args ∧ laidMet Tryd.prog laidL w) ∧ sizedMet enc Tryd.prog Tryd.f9 (OpenSpec.ofChange Rows.codecDigestsSpec) false w args)
      (Rows.codecDigestsSpec.post enc Tryd.prog Tryd.f9 false true false false) :=
  cod_lifted (rt := Tryd.f9.resultTypes[0]!) started Tryd.func9 (by kernel_rfl) rfl (by kernel_rfl) rfl (by kernel_rfl)
    (fun ds hl => by
      match ds, hl with
      | [d1], _ => exact ⟨rfl, rfl, rfl⟩)
    (ChangeSpec.witness_shaped (enc := enc) (C := Tryd.checked) (os := os) (X := fun w _ => laidMet Tryd.prog laidL w) false (World.doorLaid Tryd.prog 400 os) #[.string ByteArray.empty] 8 rfl (World.shaped_of_RefB (by kernel_rfl) (by kernel_rfl)) (by kernel_rfl) (by kernel_rfl) (by kernel_rfl) (door_met os _))
    (fun args ds p W hA hv hG => by
      obtain ⟨base, hv⟩ := hv
      have hA' : DataW.TrodAll enc Tryd.prog W 0 (fun _ => true) true [9] args.toList ds p := hA
      obtain ⟨v0, vs, d0, ds', p0, q0, hargs, rfl, rfl, h0, r0⟩ := trodAll_cons hA'
      obtain ⟨rfl, rfl, rfl⟩ := trodAll_nil r0
      obtain rfl : args = #[v0] := by cases args; simp_all
      obtain ⟨a0, rfl, hs0⟩ := param9 (hv 0 9 v0 rfl rfl) h0
      obtain ⟨k, hk⟩ := law9 a0
      exact gangsawlaw02_CodecDigests.calls k a0 true W hG hk)
theorem codecDigests_said : Rows.CodecDigestsSaid :=
  OpenClaim.holds_of_wide 9 Tryd.f9 rfl rfl rfl rfl rfl rfl rfl ⟨rfl, rfl, rfl, rfl, rfl⟩ rfl rfl rfl rfl rfl (by kernel_rfl) Tryd.func9 (by kernel_rfl)
    (of_decide_eq_true (by kernel_rfl)) (by unfold Func.isWrapper; rw [if_neg (of_decide_eq_false (by kernel_rfl))]; exact ⟨rfl, rfl⟩)
    (fun os started H enc _ => codecDigests_lifted os started H enc)
/-- The statement: for all strings, Digest returns the specified digest. -/
theorem codecDigests_holds : Rows.CodecDigestsCardSaid :=
  Claim7.holds_tied_plain_at .later [] [.data, .data, .data] true (true, "40514f4e30e2e814d8b5f70127c84f538ceace12d102eaf17d18a4564461166b") false
    codecDigests_said (fun _ h => by cases h) (by kernel_rfl) (fun _ h => by cases h) codecDigests_row_tie rfl ⟨rfl, rfl⟩ (by kernel_rfl) rfl
    (fun f fn hf hfn => by
      obtain rfl : f = 9 := Option.some.inj ((show Tryd.prog.funcNamed "gangsaw/gangsawlaw02.CodecDigests" = some 9 by kernel_rfl).symm.trans hf) |>.symm
      obtain rfl : fn = Tryd.f9 := (Option.some.inj (Tryd.func9.symm.trans hfn)).symm
      exact ⟨by kernel_rfl, fun j t ht => by
        have ha : (Tryd.f9.params.toList.all fun t => !Tryd.prog.wantsStandIn t) = true := by kernel_rfl
        have hm : t ∈ Tryd.f9.params.toList := Array.mem_toList_iff.2 (Array.mem_of_getElem? ht)
        have h1 := List.all_eq_true.1 ha t hm
        have h2 : Tryd.prog.wantsStandIn t = false := by simpa using h1
        exact h2⟩)
    (by kernel_rfl)
end Go.Proofs.YtcmphojichgfeaaDoor
