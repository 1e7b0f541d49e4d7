/- The codec seat: Decode of the encoding of a value is the value, and the encoding of what Decode returns is the string; for every input, without a condition. -/
import Derived.Test.YtcmphojichgfeaaDoorCG3
import Derived.Test.YtcmphojichgfeaaDoorCG4
import Derived.Test.YtcmphojichgfeaaDoorCW5
import Derived.Test.YtcmphojichgfeaaDoorCP7
import Derived.Test.YtcmphojichgfeaaDoorRows
import Derived.Test.YtcmphojichgfeaaDoorTie
import Derived.Test.YtcmphojichgfeaaDoorCards
import Derived.SevenTiedAt
namespace Go.Proofs.YtcmphojichgfeaaDoor
open Go.ChangeShapes Go.WideShapes Go.ChangeAt Go.RowKit QC
set_option linter.unusedVariables false
set_option linter.unusedSimpArgs false
set_option maxRecDepth 100000
theorem back1 (s : ByteArray) (hs : s.size ≤ 600) : Ev (fun k => gangsawlaw02_CodecBack.j1 k s) true := by
  refine Ev.succ' ?_
  simp only [gangsawlaw02_CodecBack.j1]
  rcases decode_any s (by omega) with h | ⟨x, h, hc, hx⟩
  · have e : codec_Equal.f 0 0 (⟨#[]⟩ : ByteArray) [] 0 0 (⟨#[]⟩ : ByteArray) [] = some true := equal_refl ⟨0, 0, ⟨#[]⟩, []⟩
    simp only [h, Option.bind_some]
    exact Ev.const (fun k => by rw [if_neg (by decide), e]; rfl)
  · have hl : (encV x).length = s.size := by rw [← encS_size, hx]
    have he := encodeE x (by omega)
    simp only [h, Option.bind_some, if_true]
    refine Ev.bind he ?_
    rw [if_pos hc, hx]
    exact Ev.const (fun k => by simp)
theorem law5 (a : S24) (ha : okV a) (s : ByteArray) (hs : s.size ≤ 9223372036854775807) : ∃ k, gangsawlaw02_CodecBack.f k a.f0 a.f1 a.f2 a.f3 s = some true := by
  obtain ⟨s1, h1, g1⟩ := smallE a (okB_of ha) 60 (by omega) (by omega)
  have hT : Ev (fun k => gangsawlaw02_CodecBack.j0 k s true a.f0 a.f1 a.f2 a.f3) true :=
    Ev.succ' (by simp only [gangsawlaw02_CodecBack.j0, if_true]; exact Ev.some)
  refine Ev.ex (f := fun k => gangsawlaw02_CodecBack.f k a.f0 a.f1 a.f2 a.f3 s) ?_
  simp only [gangsawlaw02_CodecBack.f, gangsawlaw02_awake.f, Option.bind_some, if_true]
  refine Ev.bind h1 ?_
  cases s1 with
  | false => simpa using hT
  | true =>
    simp only [if_true]
    by_cases hs6 : (s.size : Int) > 600
    · rw [decide_eq_true hs6]; exact hT
    · rw [decide_eq_false hs6]
      obtain ⟨hn, hsm⟩ := g1 rfl
      have y1 := yoursE _ a (Nat.le_refl _) (by omega)
      have hlen := small_len 24 a hsm (by omega)
      have hr := rng_of a ha
      have he := encodeE (toY a) (by omega)
      rw [← toY_eta] at he hlen hr
      refine Ev.succ' ?_
      simp only [gangsawlaw02_CodecBack.j0, Bool.false_eq_true, if_false]
      refine Ev.bind y1 ?_
      refine Ev.bind he ?_
      by_cases hc : chk ⟨a.f0, a.f1, a.f2, toYL a.f3⟩ = 0
      · rw [if_pos hc]
        simp only [if_true, decode_enc hc hr (by omega), Option.bind_some]
        refine Ev.bind y1 ?_
        simp only [equal_refl ⟨a.f0, a.f1, a.f2, toYL a.f3⟩, Option.bind_some, if_true]
        exact back1 s (by omega)
      · rw [if_neg hc]
        simp only [if_neg hc]
        exact back1 s (by omega)
theorem codecBack_lifted (os : Os) (started : os.Started) (H : Type) (enc : TypeId × Value → H) :
    ReturnsInHanded {} Tryd.checked os 5 .any (fun w args => (Rows.codecBackSpec.pre enc Tryd.prog Tryd.f5 Rows.codecBackRow.domain false w args ∧ laidMet Tryd.prog laidL w) ∧ sizedMet enc Tryd.prog Tryd.f5 (OpenSpec.ofChange Rows.codecBackSpec) false w args)
      (Rows.codecBackSpec.post enc Tryd.prog Tryd.f5 false true false false) :=
  cod_lifted (rt := Tryd.f5.resultTypes[0]!) started Tryd.func5 (by kernel_rfl) rfl (by kernel_rfl) rfl (by kernel_rfl)
    (fun ds hl => by
      match ds, hl with
      | [d0, d1], _ => exact ⟨rfl, rfl, rfl⟩)
    (ChangeSpec.witness_shaped (enc := enc) (C := Tryd.checked) (os := os) (X := fun w _ => laidMet Tryd.prog laidL w) false (World.doorLaid Tryd.prog 400 os) #[.agg #[.int .i64 0, .int .i64 0, .string ByteArray.empty, .slice none 0 0], .string ByteArray.empty] 8 rfl (World.shaped_of_RefB (by kernel_rfl) (by kernel_rfl)) (by kernel_rfl) (by kernel_rfl) (by kernel_rfl) (door_met os _))
    (fun args ds p W hA hv hG => by
      obtain ⟨base, hv⟩ := hv
      have hA' : DataW.TrodAll enc Tryd.prog W 0 (fun _ => true) true [24, 9] args.toList ds p := hA
      obtain ⟨v0, vs0, d0, ds0, p0, q0, hargs, rfl, rfl, h0, r0⟩ := trodAll_cons hA'
      obtain ⟨v1, vs1, d1, ds1, p1, q1, rfl, rfl, rfl, h1, r1⟩ := trodAll_cons r0
      obtain ⟨rfl, rfl, rfl⟩ := trodAll_nil r1
      obtain rfl : args = #[v0, v1] := by cases args; simp_all
      obtain ⟨y0, A0, c0, rfl, hl0, hC0, ho0⟩ := param24 h0
      obtain ⟨y1, rfl, hs1⟩ := param9 (hv 1 9 v1 rfl rfl) h1
      obtain ⟨k, hk⟩ := law5 y0 ho0 y1 hs1
      exact gangsawlaw02_CodecBack.calls k y0.f0 y0.f1 y0.f2 A0 c0 y0.f3 y1 true W hC0 hl0 hG hk)
theorem codecBack_said : Rows.CodecBackSaid :=
  OpenClaim.holds_of_wide 5 Tryd.f5 rfl rfl rfl rfl rfl rfl rfl ⟨rfl, rfl, rfl, rfl, rfl⟩ rfl rfl rfl rfl rfl (by kernel_rfl) Tryd.func5 (by kernel_rfl)
    (of_decide_eq_true (by kernel_rfl)) (by unfold Func.isWrapper; rw [if_neg (of_decide_eq_false (by kernel_rfl))]; exact ⟨rfl, rfl⟩)
    (fun os started H enc _ => codecBack_lifted os started H enc)
/-- The statement: Decode of the encoding of a value is the value, and the encoding of what Decode returns is the string. -/
theorem codecBack_holds : Rows.CodecBackCardSaid :=
  Claim7.holds_tied_plain_at .later [] [.data, .data, .data] true (true, "40514f4e30e2e814d8b5f70127c84f538ceace12d102eaf17d18a4564461166b") false
    codecBack_said (fun _ h => by cases h) (by kernel_rfl) (fun _ h => by cases h) codecBack_row_tie rfl ⟨rfl, rfl⟩ (by kernel_rfl) rfl
    (fun f fn hf hfn => by
      obtain rfl : f = 5 := Option.some.inj ((show Tryd.prog.funcNamed "gangsaw/gangsawlaw02.CodecBack" = some 5 by kernel_rfl).symm.trans hf) |>.symm
      obtain rfl : fn = Tryd.f5 := (Option.some.inj (Tryd.func5.symm.trans hfn)).symm
      exact ⟨by kernel_rfl, fun j t ht => by
        have ha : (Tryd.f5.params.toList.all fun t => !Tryd.prog.wantsStandIn t) = true := by kernel_rfl
        have hm : t ∈ Tryd.f5.params.toList := Array.mem_toList_iff.2 (Array.mem_of_getElem? ht)
        have h1 := List.all_eq_true.1 ha t hm
        have h2 : Tryd.prog.wantsStandIn t = false := by simpa using h1
        exact h2⟩)
    (by kernel_rfl)
end Go.Proofs.YtcmphojichgfeaaDoor
