/- The codec seat: for all values, Check and Encode return the specified results or errors; for every input, without a condition. -/
import Derived.Test.YtcmphojichgfeaaDoorCG3
import Derived.Test.YtcmphojichgfeaaDoorCG4
import Derived.Test.YtcmphojichgfeaaDoorCW3
import Derived.Test.YtcmphojichgfeaaDoorCP4
import Derived.Test.YtcmphojichgfeaaDoorRows
import Derived.Test.YtcmphojichgfeaaDoorTie
import Derived.Test.YtcmphojichgfeaaDoorCards
import Derived.SevenTiedAt
namespace Go.Proofs.YtcmphojichgfeaaDoor
open Go.ChangeShapes Go.WideShapes Go.ChangeAt Go.RowKit QC
set_option linter.unusedVariables false
set_option linter.unusedSimpArgs false
set_option maxRecDepth 100000
theorem law3 (a : S24) (ha : okV a) : ∃ k, gangsawlaw02_CodecEncodes.f k a.f0 a.f1 a.f2 a.f3 = some true := by
  obtain ⟨s1, h1, g1⟩ := smallE a (okB_of ha) 60 (by omega) (by omega)
  refine Ev.ex (f := fun k => gangsawlaw02_CodecEncodes.f k a.f0 a.f1 a.f2 a.f3) ?_
  simp only [gangsawlaw02_CodecEncodes.f, gangsawlaw02_awake.f, Option.bind_some, if_true]
  refine Ev.bind h1 ?_
  cases s1 with
  | false => simp only [Bool.false_eq_true, if_false]; exact Ev.some
  | true =>
    simp only [if_true]
    obtain ⟨hn, hsm⟩ := g1 rfl
    have y1 := yoursE _ a (Nat.le_refl _) (by omega)
    have hlen := small_len 24 a hsm (by omega)
    have hr := rng_of a ha
    have hrc := refCheckE a (by omega) hr (by omega)
    have hre := refEncodeE a (by omega) hr (by omega)
    have he := encodeE (toY a) (by omega)
    have hc := checkE (toY a) (by omega)
    rw [← toY_eta] at he hc hrc hre
    refine Ev.bind y1 ?_
    refine Ev.bind he ?_
    refine Ev.bind y1 ?_
    refine Ev.bind hc ?_
    refine Ev.bind hrc ?_
    simp only [if_true]
    refine Ev.bind hrc ?_
    have e2 : (if chk ⟨a.f0, a.f1, a.f2, toYL a.f3⟩ = 0 then (encS ⟨a.f0, a.f1, a.f2, toYL a.f3⟩, (0 : Int)) else ((⟨#[]⟩ : ByteArray), chk ⟨a.f0, a.f1, a.f2, toYL a.f3⟩)).2 = chk ⟨a.f0, a.f1, a.f2, toYL a.f3⟩ := by
      split
      · rename_i h; exact h.symm
      · rfl
    have e1 : (if chk ⟨a.f0, a.f1, a.f2, toYL a.f3⟩ = 0 then (encS ⟨a.f0, a.f1, a.f2, toYL a.f3⟩, (0 : Int)) else ((⟨#[]⟩ : ByteArray), chk ⟨a.f0, a.f1, a.f2, toYL a.f3⟩)).1 = (if chk ⟨a.f0, a.f1, a.f2, toYL a.f3⟩ = 0 then encS ⟨a.f0, a.f1, a.f2, toYL a.f3⟩ else ⟨#[]⟩) := by
      split <;> rfl
    simp only [e2, if_true, e1]
    refine Ev.bind hre ?_
    exact Ev.const (fun k => by simp)
theorem codecEncodes_lifted (os : Os) (started : os.Started) (H : Type) (enc : TypeId × Value → H) :
    ReturnsInHanded {} Tryd.checked os 3 .any (fun w args => (Rows.codecEncodesSpec.pre enc Tryd.prog Tryd.f3 Rows.codecEncodesRow.domain false w args ∧ laidMet Tryd.prog laidL w) ∧ sizedMet enc Tryd.prog Tryd.f3 (OpenSpec.ofChange Rows.codecEncodesSpec) false w args)
      (Rows.codecEncodesSpec.post enc Tryd.prog Tryd.f3 false true false false) :=
  cod_lifted (rt := Tryd.f3.resultTypes[0]!) started Tryd.func3 (by kernel_rfl) rfl (by kernel_rfl) rfl (by kernel_rfl)
    (fun ds hl => by
      match ds, hl with
      | [d0], _ => exact ⟨rfl, rfl, rfl⟩)
    (ChangeSpec.witness_shaped (enc := enc) (C := Tryd.checked) (os := os) (X := fun w _ => laidMet Tryd.prog laidL w) false (World.doorLaid Tryd.prog 400 os) #[.agg #[.int .i64 0, .int .i64 0, .string ByteArray.empty, .slice none 0 0]] 8 rfl (World.shaped_of_RefB (by kernel_rfl) (by kernel_rfl)) (by kernel_rfl) (by kernel_rfl) (by kernel_rfl) (door_met os _))
    (fun args ds p W hA hv hG => by
      obtain ⟨base, hv⟩ := hv
      have hA' : DataW.TrodAll enc Tryd.prog W 0 (fun _ => true) true [24] args.toList ds p := hA
      obtain ⟨v0, vs0, d0, ds0, p0, q0, hargs, rfl, rfl, h0, r0⟩ := trodAll_cons hA'
      obtain ⟨rfl, rfl, rfl⟩ := trodAll_nil r0
      obtain rfl : args = #[v0] := by cases args; simp_all
      obtain ⟨y0, A0, c0, rfl, hl0, hC0, ho0⟩ := param24 h0
      obtain ⟨k, hk⟩ := law3 y0 ho0
      exact gangsawlaw02_CodecEncodes.calls k y0.f0 y0.f1 y0.f2 A0 c0 y0.f3 true W hC0 hl0 hG hk)
theorem codecEncodes_said : Rows.CodecEncodesSaid :=
  OpenClaim.holds_of_wide 3 Tryd.f3 rfl rfl rfl rfl rfl rfl rfl ⟨rfl, rfl, rfl, rfl, rfl⟩ rfl rfl rfl rfl rfl (by kernel_rfl) Tryd.func3 (by kernel_rfl)
    (of_decide_eq_true (by kernel_rfl)) (by unfold Func.isWrapper; rw [if_neg (of_decide_eq_false (by kernel_rfl))]; exact ⟨rfl, rfl⟩)
    (fun os started H enc _ => codecEncodes_lifted os started H enc)
/-- The statement: for all values, Check and Encode return the specified results or errors. -/
theorem codecEncodes_holds : Rows.CodecEncodesCardSaid :=
  Claim7.holds_tied_plain_at .later [] [.data, .data, .data] true (true, "40514f4e30e2e814d8b5f70127c84f538ceace12d102eaf17d18a4564461166b") false
    codecEncodes_said (fun _ h => by cases h) (by kernel_rfl) (fun _ h => by cases h) codecEncodes_row_tie rfl ⟨rfl, rfl⟩ (by kernel_rfl) rfl
    (fun f fn hf hfn => by
      obtain rfl : f = 3 := Option.some.inj ((show Tryd.prog.funcNamed "gangsaw/gangsawlaw02.CodecEncodes" = some 3 by kernel_rfl).symm.trans hf) |>.symm
      obtain rfl : fn = Tryd.f3 := (Option.some.inj (Tryd.func3.symm.trans hfn)).symm
      exact ⟨by kernel_rfl, fun j t ht => by
        have ha : (Tryd.f3.params.toList.all fun t => !Tryd.prog.wantsStandIn t) = true := by kernel_rfl
        have hm : t ∈ Tryd.f3.params.toList := Array.mem_toList_iff.2 (Array.mem_of_getElem? ht)
        have h1 := List.all_eq_true.1 ha t hm
        have h2 : Tryd.prog.wantsStandIn t = false := by simpa using h1
        exact h2⟩)
    (by kernel_rfl)
end Go.Proofs.YtcmphojichgfeaaDoor
