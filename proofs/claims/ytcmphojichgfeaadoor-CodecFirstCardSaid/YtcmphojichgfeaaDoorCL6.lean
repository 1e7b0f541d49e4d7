/- The codec seat: First finds the value at the beginning, whatever follows, and the encoding of a value is not the beginning of that of another one; for every input, without a condition. -/
import Derived.Test.YtcmphojichgfeaaDoorCG3
import Derived.Test.YtcmphojichgfeaaDoorCG4
import Derived.Test.YtcmphojichgfeaaDoorCW6
import Derived.Test.YtcmphojichgfeaaDoorCP7
import Derived.Test.YtcmphojichgfeaaDoorRows
import Derived.Test.YtcmphojichgfeaaDoorTie
import Derived.Test.YtcmphojichgfeaaDoorCards
import Derived.SevenTiedAt
namespace Go.Proofs.YtcmphojichgfeaaDoor
open Go.ChangeShapes Go.WideShapes Go.ChangeAt Go.RowKit QC
set_option linter.unusedVariables false
set_option linter.unusedSimpArgs false
set_option maxRecDepth 100000
theorem law6 (a : S24) (ha : okV a) (b : S24) (hb : okV b) (s : ByteArray) (hs : s.size ≤ 9223372036854775807) : ∃ k, gangsawlaw02_CodecFirst.f k a.f0 a.f1 a.f2 a.f3 b.f0 b.f1 b.f2 b.f3 s = some true := by
  obtain ⟨s1, h1, g1⟩ := smallE a (okB_of ha) 60 (by omega) (by omega)
  obtain ⟨s2, h2, g2⟩ := smallE b (okB_of hb) 60 (by omega) (by omega)
  have hT : Ev (fun k => gangsawlaw02_CodecFirst.j0 k s true a.f0 a.f1 a.f2 a.f3 b.f0 b.f1 b.f2 b.f3) true :=
    Ev.succ' (by simp only [gangsawlaw02_CodecFirst.j0, if_true]; exact Ev.some)
  refine Ev.ex (f := fun k => gangsawlaw02_CodecFirst.f k a.f0 a.f1 a.f2 a.f3 b.f0 b.f1 b.f2 b.f3 s) ?_
  simp only [gangsawlaw02_CodecFirst.f, gangsawlaw02_awake.f, Option.bind_some, if_true]
  refine Ev.bind h1 ?_
  cases s1 with
  | false => simpa using hT
  | true =>
    simp only [if_true]
    refine Ev.bind h2 ?_
    cases s2 with
    | false => simpa using hT
    | true =>
      simp only [if_true]
      by_cases hs6 : (s.size : Int) > 200
      · rw [decide_eq_true hs6]; exact hT
      · rw [decide_eq_false hs6]
        obtain ⟨hn, hsm⟩ := g1 rfl
        obtain ⟨hn', hsm'⟩ := g2 rfl
        have y1 := yoursE _ a (Nat.le_refl _) (by omega)
        have y2 := yoursE _ b (Nat.le_refl _) (by omega)
        have hlen := small_len 24 a hsm (by omega)
        have hlen' := small_len 24 b hsm' (by omega)
        have hr := rng_of a ha
        have hr' := rng_of b hb
        have he := encodeE (toY a) (by omega)
        have he' := encodeE (toY b) (by omega)
        rw [← toY_eta] at he hlen hr he' hlen' hr'
        obtain ⟨x, hx⟩ : ∃ x : S32, x = ⟨a.f0, a.f1, a.f2, toYL a.f3⟩ := ⟨_, rfl⟩
        obtain ⟨y, hy⟩ : ∃ y : S32, y = ⟨b.f0, b.f1, b.f2, toYL b.f3⟩ := ⟨_, rfl⟩
        rw [← hx] at he hlen hr
        rw [← hy] at he' hlen' hr'
        have hJ1 : ∀ p q : ByteArray, Ev (fun k => gangsawlaw02_CodecFirst.j1 k s p q true a.f0 a.f1 a.f2 a.f3 b.f0 b.f1 b.f2 b.f3) true := fun p q =>
          Ev.succ' (by simp only [gangsawlaw02_CodecFirst.j1, if_true]; exact Ev.some)
        refine Ev.succ' ?_
        simp only [gangsawlaw02_CodecFirst.j0, Bool.false_eq_true, if_false]
        refine Ev.bind y1 ?_
        have he1 : Ev (fun k => codec_Encode.f k a.f0 a.f1 a.f2 (toYL a.f3)) (if chk x = 0 then (encS x, 0) else (⟨#[]⟩, chk x)) := by subst hx; exact he
        have he2 : Ev (fun k => codec_Encode.f k b.f0 b.f1 b.f2 (toYL b.f3)) (if chk y = 0 then (encS y, 0) else (⟨#[]⟩, chk y)) := by subst hy; exact he'
        refine Ev.bind he1 ?_
        refine Ev.bind y2 ?_
        refine Ev.bind he2 ?_
        by_cases hc : chk x = 0
        · by_cases hc' : chk y = 0
          · simp only [if_pos hc, if_pos hc', if_true, bne_self_eq_false]
            have hA := at_pre (enc_by x) s
            have hA2 := at_self (enc_by y)
            have hf := first_enc (s := encS x ++ s) hc hr (by rw [ByteArray.size_append, encS_size]; omega) hA
            have hf0 : codec_First.f (encS x ++ s) = some (a.f0, a.f1, a.f2, toYL a.f3, ((encV x).length : Int), 0) := by rw [hf, hx]
            have heq : codec_Equal.f a.f0 a.f1 a.f2 (toYL a.f3) a.f0 a.f1 a.f2 (toYL a.f3) = some true := equal_refl ⟨a.f0, a.f1, a.f2, toYL a.f3⟩
            refine Ev.succ' ?_
            simp only [gangsawlaw02_CodecFirst.j1, Bool.false_eq_true, if_false, if_pos (show (encS x).size + s.size ≤ 9223372036854775807 by rw [encS_size]; omega), hf0, Option.bind_some, if_true, if_pos (show ((encV x).length : Int) = ((encS x).size : Int) by rw [encS_size])]
            refine Ev.bind y1 ?_
            simp only [heq, Option.bind_some, Bool.not_true]
            refine Ev.succ' ?_
            simp only [gangsawlaw02_CodecFirst.j2, Bool.false_eq_true, if_false]
            by_cases hgt : ((encS x).size : Int) > ((encS y).size : Int)
            · simp only [if_pos hgt]; exact Ev.some
            · simp only [if_neg hgt, if_pos (show (0 : Int) ≤ ((encS x).size : Int) by omega), if_pos (show ((encS x).size : Int) ≤ ((encS y).size : Int) by omega), Int.toNat_natCast]
              by_cases hpre : ((encS y).extract 0 (encS x).size).toList = (encS x).toList
              · simp only [if_pos hpre]
                have hA1 : At (encS y) 0 (encV x) := at_of_ext (s := encS x) (at_self (enc_by x)) (encS_size x) hpre (by omega)
                obtain ⟨p1, d1⟩ := chk_ok hc
                obtain ⟨p2, d2⟩ := chk_ok hc'
                have v1 := valRd (encS y) _ x (Nat.le_refl _) p1 hr 16 0 d1 hA1
                have v2 := valRd (encS y) _ y (Nat.le_refl _) p2 hr' 16 0 d2 hA2
                rw [v1] at v2
                have hxy : x = y := congrArg Prod.fst (Option.some.inj v2)
                have heq2 : codec_Equal.f a.f0 a.f1 a.f2 (toYL a.f3) b.f0 b.f1 b.f2 (toYL b.f3) = some true := by
                  have := equal_refl x
                  have e : codec_Equal.f x.f0 x.f1 x.f2 x.f3 y.f0 y.f1 y.f2 y.f3 = some true := by rw [← hxy]; exact this
                  rw [hx, hy] at e
                  exact e
                refine Ev.bind y1 ?_
                refine Ev.bind y2 ?_
                simp only [heq2, Option.bind_some]
                exact Ev.some
              · simp only [if_neg hpre]; exact Ev.some
          · simp only [if_pos hc, if_neg hc', if_true, show ((chk y != 0) = true) by simp [hc']]
            exact hJ1 _ _
        · simp only [if_neg hc]
          exact hJ1 _ _
theorem codecFirst_lifted (os : Os) (started : os.Started) (H : Type) (enc : TypeId × Value → H) :
    ReturnsInHanded {} Tryd.checked os 6 .any (fun w args => (Rows.codecFirstSpec.pre enc Tryd.prog Tryd.f6 Rows.codecFirstRow.domain false w args ∧ laidMet Tryd.prog laidL w) ∧ sizedMet enc Tryd.prog Tryd.f6 (OpenSpec.ofChange Rows.codecFirstSpec) false w args)
      (Rows.codecFirstSpec.post enc Tryd.prog Tryd.f6 false true false false) :=
  cod_lifted (rt := Tryd.f6.resultTypes[0]!) started Tryd.func6 (by kernel_rfl) rfl (by kernel_rfl) rfl (by kernel_rfl)
    (fun ds hl => by
      match ds, hl with
      | [d0, d1, d2], _ => exact ⟨rfl, rfl, rfl⟩)
    (ChangeSpec.witness_shaped (enc := enc) (C := Tryd.checked) (os := os) (X := fun w _ => laidMet Tryd.prog laidL w) false (World.doorLaid Tryd.prog 400 os) #[.agg #[.int .i64 0, .int .i64 0, .string ByteArray.empty, .slice none 0 0], .agg #[.int .i64 0, .int .i64 0, .string ByteArray.empty, .slice none 0 0], .string ByteArray.empty] 8 rfl (World.shaped_of_RefB (by kernel_rfl) (by kernel_rfl)) (by kernel_rfl) (by kernel_rfl) (by kernel_rfl) (door_met os _))
    (fun args ds p W hA hv hG => by
      obtain ⟨base, hv⟩ := hv
      have hA' : DataW.TrodAll enc Tryd.prog W 0 (fun _ => true) true [24, 24, 9] args.toList ds p := hA
      obtain ⟨v0, vs0, d0, ds0, p0, q0, hargs, rfl, rfl, h0, r0⟩ := trodAll_cons hA'
      obtain ⟨v1, vs1, d1, ds1, p1, q1, rfl, rfl, rfl, h1, r1⟩ := trodAll_cons r0
      obtain ⟨v2, vs2, d2, ds2, p2, q2, rfl, rfl, rfl, h2, r2⟩ := trodAll_cons r1
      obtain ⟨rfl, rfl, rfl⟩ := trodAll_nil r2
      obtain rfl : args = #[v0, v1, v2] := by cases args; simp_all
      obtain ⟨y0, A0, c0, rfl, hl0, hC0, ho0⟩ := param24 h0
      obtain ⟨y1, A1, c1, rfl, hl1, hC1, ho1⟩ := param24 h1
      obtain ⟨y2, rfl, hs2⟩ := param9 (hv 2 9 v2 rfl rfl) h2
      obtain ⟨k, hk⟩ := law6 y0 ho0 y1 ho1 y2 hs2
      exact gangsawlaw02_CodecFirst.calls k y0.f0 y0.f1 y0.f2 A0 c0 y0.f3 y1.f0 y1.f1 y1.f2 A1 c1 y1.f3 y2 true W hC0 hl0 hC1 hl1 hG hk)
theorem codecFirst_said : Rows.CodecFirstSaid :=
  OpenClaim.holds_of_wide 6 Tryd.f6 rfl rfl rfl rfl rfl rfl rfl ⟨rfl, rfl, rfl, rfl, rfl⟩ rfl rfl rfl rfl rfl (by kernel_rfl) Tryd.func6 (by kernel_rfl)
    (of_decide_eq_true (by kernel_rfl)) (by unfold Func.isWrapper; rw [if_neg (of_decide_eq_false (by kernel_rfl))]; exact ⟨rfl, rfl⟩)
    (fun os started H enc _ => codecFirst_lifted os started H enc)
/-- The statement: First finds the value at the beginning, whatever follows, and the encoding of a value is not the beginning of that of another one. -/
theorem codecFirst_holds : Rows.CodecFirstCardSaid :=
  Claim7.holds_tied_plain_at .later [] [.data, .data, .data] true (true, "40514f4e30e2e814d8b5f70127c84f538ceace12d102eaf17d18a4564461166b") false
    codecFirst_said (fun _ h => by cases h) (by kernel_rfl) (fun _ h => by cases h) codecFirst_row_tie rfl ⟨rfl, rfl⟩ (by kernel_rfl) rfl
    (fun f fn hf hfn => by
      obtain rfl : f = 6 := Option.some.inj ((show Tryd.prog.funcNamed "gangsaw/gangsawlaw02.CodecFirst" = some 6 by kernel_rfl).symm.trans hf) |>.symm
      obtain rfl : fn = Tryd.f6 := (Option.some.inj (Tryd.func6.symm.trans hfn)).symm
      exact ⟨by kernel_rfl, fun j t ht => by
        have ha : (Tryd.f6.params.toList.all fun t => !Tryd.prog.wantsStandIn t) = true := by kernel_rfl
        have hm : t ∈ Tryd.f6.params.toList := Array.mem_toList_iff.2 (Array.mem_of_getElem? ht)
        have h1 := List.all_eq_true.1 ha t hm
        have h2 : Tryd.prog.wantsStandIn t = false := by simpa using h1
        exact h2⟩)
    (by kernel_rfl)
end Go.Proofs.YtcmphojichgfeaaDoor
