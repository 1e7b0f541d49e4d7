/- The codec seat: for all strings, Decode and First return the specified values or errors; for every input, without a condition. -/
import Derived.Test.YtcmphojichgfeaaDoorCG2
import Derived.Test.YtcmphojichgfeaaDoorCW4
import Derived.Test.YtcmphojichgfeaaDoorCP8b
import Derived.Test.YtcmphojichgfeaaDoorRows
import Derived.Test.YtcmphojichgfeaaDoorTie
import Derived.Test.YtcmphojichgfeaaDoorCards
import Derived.SevenTiedAt
namespace Go.Proofs.YtcmphojichgfeaaDoor
open Go.ChangeShapes Go.WideShapes Go.ChangeAt Go.RowKit QC
set_option linter.unusedVariables false
set_option linter.unusedSimpArgs false
set_option maxRecDepth 100000
theorem law4 (s : ByteArray) (hs : s.size ≤ 9223372036854775807) : ∃ k, gangsawlaw02_CodecDecodes.f k s = some true := by
  refine Ev.ex (f := fun k => gangsawlaw02_CodecDecodes.f k s) ?_
  simp only [gangsawlaw02_CodecDecodes.f, gangsawlaw02_awake.f, Option.bind_some, if_true]
  by_cases h6 : (s.size : Int) > 600
  · simp only [if_pos h6]
    exact Ev.some
  · simp only [if_neg h6]
    have hs1 : s.size ≤ 1000000 := by omega
    have mz := mineE _ zS (Nat.le_refl _) zS_nodes
    have cz := mine_cmp zS zS_nodes
    cases h : rdV s 17 0 with
    | none =>
      have f1 : codec_First.f s = some (0, 0, ⟨#[]⟩, [], 0, 2) := by rw [codec_First.f, firstV_none (by omega) h]
      have d1 : codec_Decode.f s = some (0, 0, ⟨#[]⟩, [], 2) := by rw [codec_Decode.f, f1]; rfl
      have f2 := refFirst_none hs1 h
      have d2 : Ev (fun k => gangsawref02_Decode.f k s) (0, 0, ⟨#[]⟩, [], 2) := by
        simp only [gangsawref02_Decode.f]
        refine Ev.bind f2 ?_
        exact Ev.const (fun k => by rw [if_neg (by decide)])
      simp only [f1, d1, Option.bind_some]
      refine Ev.bind d2 ?_
      refine Ev.bind f2 ?_
      simp only [if_true]
      refine Ev.bind mz ?_
      refine Ev.bind cz ?_
      simp only [if_true]
      refine Ev.bind mz ?_
      refine Ev.bind cz ?_
      exact Ev.const (fun k => by simp)
    | some p =>
      obtain ⟨x, j⟩ := p
      obtain ⟨hp, _, _, hA, hj⟩ := rdVal s hs1 16 0 x j h
      have hend := At.end_ hA (enc_pos x)
      have hnx : nodes (toR x) ≤ 1000000 := by have := nodes_enc x hp; omega
      have mx := mineE _ x (Nat.le_refl _) hnx
      have cx := mine_cmp x hnx
      have f1 : codec_First.f s = some (x.f0, x.f1, x.f2, x.f3, (j : Int), 0) := by rw [codec_First.f, firstV_some (by omega) h]
      have f2 := refFirst_some hs1 h
      by_cases hjs : (j : Int) = (s.size : Int)
      · have d1 : codec_Decode.f s = some (x.f0, x.f1, x.f2, x.f3, 0) := by rw [codec_Decode.f, f1]; simp only [Option.bind_some, if_true, if_pos hjs]
        have d2 : Ev (fun k => gangsawref02_Decode.f k s) (x.f0, x.f1, x.f2, toRL x.f3, 0) := by
          simp only [gangsawref02_Decode.f]
          refine Ev.bind f2 ?_
          simp only [if_true, if_pos hjs]
          exact Ev.some
        simp only [f1, d1, Option.bind_some]
        refine Ev.bind d2 ?_
        refine Ev.bind f2 ?_
        simp only [if_true]
        refine Ev.bind mx ?_
        refine Ev.bind cx ?_
        simp only [if_true]
        refine Ev.bind mx ?_
        refine Ev.bind cx ?_
        exact Ev.const (fun k => by simp)
      · have d1 : codec_Decode.f s = some (0, 0, ⟨#[]⟩, [], 2) := by rw [codec_Decode.f, f1]; simp only [Option.bind_some, if_true, if_neg hjs]
        have d2 : Ev (fun k => gangsawref02_Decode.f k s) (0, 0, ⟨#[]⟩, [], 2) := by
          simp only [gangsawref02_Decode.f]
          refine Ev.bind f2 ?_
          simp only [if_true, if_neg hjs]
          exact Ev.some
        simp only [f1, d1, Option.bind_some]
        refine Ev.bind d2 ?_
        refine Ev.bind f2 ?_
        simp only [if_true]
        refine Ev.bind mz ?_
        refine Ev.bind cz ?_
        simp only [if_true]
        refine Ev.bind mx ?_
        refine Ev.bind cx ?_
        exact Ev.const (fun k => by simp)
theorem codecDecodes_lifted (os : Os) (started : os.Started) (H : Type) (enc : TypeId × Value → H) :
    ReturnsInHanded {} Tryd.checked os 4 .any (fun w args => (Rows.codecDecodesSpec.pre enc Tryd.prog Tryd.f4 Rows.codecDecodesRow.domain false w args ∧ laidMet Tryd.prog laidL w) ∧ sizedMet enc Tryd.prog Tryd.f4 (OpenSpec.ofChange Rows.codecDecodesSpec) false w args)
      (Rows.codecDecodesSpec.post enc Tryd.prog Tryd.f4 false true false false) :=
  cod_lifted (rt := Tryd.f4.resultTypes[0]!) started Tryd.func4 (by kernel_rfl) rfl (by kernel_rfl) rfl (by kernel_rfl)
    (fun ds hl => by
      match ds, hl with
      | [d0], _ => exact ⟨rfl, rfl, rfl⟩)
    (ChangeSpec.witness_shaped (enc := enc) (C := Tryd.checked) (os := os) (X := fun w _ => laidMet Tryd.prog laidL w) false (World.doorLaid Tryd.prog 400 os) #[.string ByteArray.empty] 8 rfl (World.shaped_of_RefB (by kernel_rfl) (by kernel_rfl)) (by kernel_rfl) (by kernel_rfl) (by kernel_rfl) (door_met os _))
    (fun args ds p W hA hv hG => by
      obtain ⟨base, hv⟩ := hv
      have hA' : DataW.TrodAll enc Tryd.prog W 0 (fun _ => true) true [9] args.toList ds p := hA
      obtain ⟨v0, vs0, d0, ds0, p0, q0, hargs, rfl, rfl, h0, r0⟩ := trodAll_cons hA'
      obtain ⟨rfl, rfl, rfl⟩ := trodAll_nil r0
      obtain rfl : args = #[v0] := by cases args; simp_all
      obtain ⟨y0, rfl, hs0⟩ := param9 (hv 0 9 v0 rfl rfl) h0
      obtain ⟨k, hk⟩ := law4 y0 hs0
      exact gangsawlaw02_CodecDecodes.calls k y0 true W  hG hk)
theorem codecDecodes_said : Rows.CodecDecodesSaid :=
  OpenClaim.holds_of_wide 4 Tryd.f4 rfl rfl rfl rfl rfl rfl rfl ⟨rfl, rfl, rfl, rfl, rfl⟩ rfl rfl rfl rfl rfl (by kernel_rfl) Tryd.func4 (by kernel_rfl)
    (of_decide_eq_true (by kernel_rfl)) (by unfold Func.isWrapper; rw [if_neg (of_decide_eq_false (by kernel_rfl))]; exact ⟨rfl, rfl⟩)
    (fun os started H enc _ => codecDecodes_lifted os started H enc)
/-- The statement: for all strings, Decode and First return the specified values or errors. -/
theorem codecDecodes_holds : Rows.CodecDecodesCardSaid :=
  Claim7.holds_tied_plain_at .later [] [.data, .data, .data] true (true, "40514f4e30e2e814d8b5f70127c84f538ceace12d102eaf17d18a4564461166b") false
    codecDecodes_said (fun _ h => by cases h) (by kernel_rfl) (fun _ h => by cases h) codecDecodes_row_tie rfl ⟨rfl, rfl⟩ (by kernel_rfl) rfl
    (fun f fn hf hfn => by
      obtain rfl : f = 4 := Option.some.inj ((show Tryd.prog.funcNamed "gangsaw/gangsawlaw02.CodecDecodes" = some 4 by kernel_rfl).symm.trans hf) |>.symm
      obtain rfl : fn = Tryd.f4 := (Option.some.inj (Tryd.func4.symm.trans hfn)).symm
      exact ⟨by kernel_rfl, fun j t ht => by
        have ha : (Tryd.f4.params.toList.all fun t => !Tryd.prog.wantsStandIn t) = true := by kernel_rfl
        have hm : t ∈ Tryd.f4.params.toList := Array.mem_toList_iff.2 (Array.mem_of_getElem? ht)
        have h1 := List.all_eq_true.1 ha t hm
        have h2 : Tryd.prog.wantsStandIn t = false := by simpa using h1
        exact h2⟩)
    (by kernel_rfl)
end Go.Proofs.YtcmphojichgfeaaDoor
