/- The codec seat: if one byte of a string is changed, its digest changes; for every input, without a condition. -/
import Derived.Test.YtcmphojichgfeaaDoorCG2
import Derived.Test.YtcmphojichgfeaaDoorCW10
import Derived.Test.YtcmphojichgfeaaDoorCP10
import Derived.Test.YtcmphojichgfeaaDoorRows
import Derived.Test.YtcmphojichgfeaaDoorTie
import Derived.Test.YtcmphojichgfeaaDoorCards
import Derived.SevenTiedAt
namespace Go.Proofs.YtcmphojichgfeaaDoor
open Go.ChangeShapes Go.WideShapes Go.ChangeAt Go.RowKit QC Go.Proofs.YtcmphojichgfeaaDoorW.PrintWords
set_option linter.unusedVariables false
set_option linter.unusedSimpArgs false
set_option maxRecDepth 100000
theorem law10 (a0 : ByteArray) (a1 a2 : Int) (h2 : 0 ≤ a2 ∧ a2 ≤ 255) : ∃ k, gangsawlaw02_CodecChanges.f k a0 a1 a2 = some true := by
  refine ⟨1, ?_⟩
  have j : gangsawlaw02_CodecChanges.j0 1 a0 a1 a2 true = some true := by rw [gangsawlaw02_CodecChanges.j0, if_pos rfl]
  unfold gangsawlaw02_CodecChanges.f gangsawlaw02_awake.f
  simp only [Option.bind_some, if_true]
  by_cases h : (a0.size : Int) > 1000
  · rw [if_pos h]; exact j
  · rw [if_neg h]
    by_cases h0 : a1 < 0
    · rw [if_pos h0]; exact j
    · rw [if_neg h0]
      by_cases h1 : a1 ≥ (a0.size : Int)
      · rw [if_pos h1]; exact j
      · rw [if_neg h1, if_pos (by omega), if_pos (by omega)]
        by_cases hb : bt a0 a1 = a2
        · rw [show (bt a0 a1 == a2) = true by simp [hb]]
          exact j
        · rw [show (bt a0 a1 == a2) = false by simp [hb], gangsawlaw02_CodecChanges.j0, if_neg (by simp)]
          have hi : a1.toNat < a0.size := by omega
          have ew : wrap64 (a1 + 1) = a1 + 1 := by unfold wrap64; omega
          have s1 : (strOfNums [a2]).size = 1 := by simp [strOfNums, ByteArray.size]
          have s2 : (a0.extract 0 a1.toNat).size = a1.toNat := by rw [ByteArray.size_extract]; omega
          have s3 : (a0.extract (a1 + 1).toNat a0.size).size = a0.size - (a1 + 1).toNat := by rw [ByteArray.size_extract]; omega
          have e1 : codec_Digest.f a0 = some (digB a0) := by unfold codec_Digest.f; rw [if_pos (by omega)]
          rw [ew]
          obtain ⟨t, ht⟩ : ∃ t, t = ((a0.extract 0 a1.toNat) ++ (strOfNums [a2])) ++ (a0.extract (a1 + 1).toNat a0.size) := ⟨_, rfl⟩
          have st : t.size = a0.size := by rw [ht, ByteArray.size_append, ByteArray.size_append, s1, s2, s3]; omega
          have e2 : codec_Digest.f t = some (digB t) := by unfold codec_Digest.f; rw [if_pos (by omega)]
          have hl : t.data.toList = a0.data.toList.take a1.toNat ++ (UInt8.ofNat a2.toNat) :: a0.data.toList.drop (a1.toNat + 1) := by
            rw [ht, ByteArray.data_append, ByteArray.data_append, Array.toList_append, Array.toList_append, ByteArray.data_extract, ByteArray.data_extract, Array.toList_extract, Array.toList_extract, show (a1 + 1).toNat = a1.toNat + 1 by omega]
            simp [strOfNums, List.extract_eq_take_drop]
            rw [List.take_of_length_le (by simp)]
          have hne : a0[a1.toNat] ≠ UInt8.ofNat a2.toNat := by
            intro e
            apply hb
            rw [← bt_at a0 a1 hi, e, UInt8.toNat_ofNat', Nat.mod_eq_of_lt (by omega)]
            omega
          have hd := digB_change hi hne hl
          simp only [e1, Option.bind_some]
          rw [if_pos (by omega), if_pos (by omega), s1, s2, if_pos (by omega), if_pos (by omega), if_pos (by omega), ByteArray.size_append, s1, s2, s3, if_pos (by omega), ← ht, e2]
          simp [hd]
theorem codecChanges_lifted (os : Os) (started : os.Started) (H : Type) (enc : TypeId × Value → H) :
    ReturnsInHanded {} Tryd.checked os 10 .any (fun w args => (Rows.codecChangesSpec.pre enc Tryd.prog Tryd.f10 Rows.codecChangesRow.domain false w args ∧ laidMet Tryd.prog laidL w) ∧ sizedMet enc Tryd.prog Tryd.f10 (OpenSpec.ofChange Rows.codecChangesSpec) false w args)
      (Rows.codecChangesSpec.post enc Tryd.prog Tryd.f10 false true false false) :=
  cod_lifted (rt := Tryd.f10.resultTypes[0]!) started Tryd.func10 (by kernel_rfl) rfl (by kernel_rfl) rfl (by kernel_rfl)
    (fun ds hl => by
      match ds, hl with
      | [d1, d2, d3], _ => exact ⟨rfl, rfl, rfl⟩)
    (ChangeSpec.witness_shaped (enc := enc) (C := Tryd.checked) (os := os) (X := fun w _ => laidMet Tryd.prog laidL w) false (World.doorLaid Tryd.prog 400 os) #[.string ByteArray.empty, .int .i64 0, .int .u8 0] 8 rfl (World.shaped_of_RefB (by kernel_rfl) (by kernel_rfl)) (by kernel_rfl) (by kernel_rfl) (by kernel_rfl) (door_met os _))
    (fun args ds p W hA hv hG => by
      obtain ⟨base, hv⟩ := hv
      have hA' : DataW.TrodAll enc Tryd.prog W 0 (fun _ => true) true [9, 3, 5] args.toList ds p := hA
      obtain ⟨v0, vs0, d0, ds0, p0, q0, hargs, rfl, rfl, h0, r0⟩ := trodAll_cons hA'
      obtain ⟨v1, vs1, d1, ds1, p1, q1, rfl, rfl, rfl, h1, r1⟩ := trodAll_cons r0
      obtain ⟨v2, vs2, d2, ds2, p2, q2, rfl, rfl, rfl, h2, r2⟩ := trodAll_cons r1
      obtain ⟨rfl, rfl, rfl⟩ := trodAll_nil r2
      obtain rfl : args = #[v0, v1, v2] := by cases args; simp_all
      obtain ⟨a0, rfl, hs0⟩ := param9 (hv 0 9 v0 rfl rfl) h0
      obtain ⟨a1, rfl, _, _, w1⟩ := open_int Tryd.underlying3 (hv 1 3 v1 rfl rfl) h1
      obtain ⟨a2, rfl, _, _, w2⟩ := open_int Tryd.underlying5 (hv 2 5 v2 rfl rfl) h2
      have w2' : 0 ≤ a2 ∧ a2 ≤ 255 := by
        simp only [Lit.wf, Bool.and_eq_true, decide_eq_true_eq] at w2
        exact w2
      obtain ⟨k, hk⟩ := law10 a0 a1 a2 w2'
      exact gangsawlaw02_CodecChanges.calls k a0 a1 a2 true W hG hk)
theorem codecChanges_said : Rows.CodecChangesSaid :=
  OpenClaim.holds_of_wide 10 Tryd.f10 rfl rfl rfl rfl rfl rfl rfl ⟨rfl, rfl, rfl, rfl, rfl⟩ rfl rfl rfl rfl rfl (by kernel_rfl) Tryd.func10 (by kernel_rfl)
    (of_decide_eq_true (by kernel_rfl)) (by unfold Func.isWrapper; rw [if_neg (of_decide_eq_false (by kernel_rfl))]; exact ⟨rfl, rfl⟩)
    (fun os started H enc _ => codecChanges_lifted os started H enc)
/-- The statement: if one byte of a string is changed, its digest changes. -/
theorem codecChanges_holds : Rows.CodecChangesCardSaid :=
  Claim7.holds_tied_plain_at .later [] [.data, .data, .data] true (true, "40514f4e30e2e814d8b5f70127c84f538ceace12d102eaf17d18a4564461166b") false
    codecChanges_said (fun _ h => by cases h) (by kernel_rfl) (fun _ h => by cases h) codecChanges_row_tie rfl ⟨rfl, rfl⟩ (by kernel_rfl) rfl
    (fun f fn hf hfn => by
      obtain rfl : f = 10 := Option.some.inj ((show Tryd.prog.funcNamed "gangsaw/gangsawlaw02.CodecChanges" = some 10 by kernel_rfl).symm.trans hf) |>.symm
      obtain rfl : fn = Tryd.f10 := (Option.some.inj (Tryd.func10.symm.trans hfn)).symm
      exact ⟨by kernel_rfl, fun j t ht => by
        have ha : (Tryd.f10.params.toList.all fun t => !Tryd.prog.wantsStandIn t) = true := by kernel_rfl
        have hm : t ∈ Tryd.f10.params.toList := Array.mem_toList_iff.2 (Array.mem_of_getElem? ht)
        have h1 := List.all_eq_true.1 ha t hm
        have h2 : Tryd.prog.wantsStandIn t = false := by simpa using h1
        exact h2⟩)
    (by kernel_rfl)
end Go.Proofs.YtcmphojichgfeaaDoor
