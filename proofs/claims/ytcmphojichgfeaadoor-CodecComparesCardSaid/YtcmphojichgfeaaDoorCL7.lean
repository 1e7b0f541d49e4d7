/- The codec seat: for all pairs of values, Compare and Equal return the specified results; for every input, without a condition. -/
import Derived.Test.YtcmphojichgfeaaDoorCG3
import Derived.Test.YtcmphojichgfeaaDoorCW7
import Derived.Test.YtcmphojichgfeaaDoorCP2
import Derived.Test.YtcmphojichgfeaaDoorRows
import Derived.Test.YtcmphojichgfeaaDoorTie
import Derived.Test.YtcmphojichgfeaaDoorCards
import Derived.SevenTiedAt
namespace Go.Proofs.YtcmphojichgfeaaDoor
open Go.ChangeShapes Go.WideShapes Go.ChangeAt Go.RowKit QC
set_option linter.unusedVariables false
set_option linter.unusedSimpArgs false
set_option maxRecDepth 100000
theorem law7 (a : S24) (ha : okV a) (b : S24) (hb : okV b) : ∃ k, gangsawlaw02_CodecCompares.f k a.f0 a.f1 a.f2 a.f3 b.f0 b.f1 b.f2 b.f3 = some true := by
  obtain ⟨s1, h1, g1⟩ := smallE a (okB_of ha) 60 (by omega) (by omega)
  obtain ⟨s2, h2, g2⟩ := smallE b (okB_of hb) 60 (by omega) (by omega)
  have hT : Ev (fun k => gangsawlaw02_CodecCompares.j0 k true a.f0 a.f1 a.f2 a.f3 b.f0 b.f1 b.f2 b.f3) true :=
    Ev.succ' (by simp only [gangsawlaw02_CodecCompares.j0, if_true]; exact Ev.some)
  have hF : ∀ (h : nodes a ≤ 60) (h' : nodes b ≤ 60), Ev (fun k => gangsawlaw02_CodecCompares.j0 k false a.f0 a.f1 a.f2 a.f3 b.f0 b.f1 b.f2 b.f3) true := by
    intro hn hn'
    have y1 := yoursE _ a (Nat.le_refl _) (by omega)
    have y2 := yoursE _ b (Nat.le_refl _) (by omega)
    have ea : (⟨a.f0, a.f1, a.f2, toYL a.f3⟩ : S32) = toY a := by cases a; rw [toY]
    have eb : (⟨b.f0, b.f1, b.f2, toYL b.f3⟩ : S32) = toY b := by cases b; rw [toY]
    have e1 : codec_Compare.f a.f0 a.f1 a.f2 (toYL a.f3) b.f0 b.f1 b.f2 (toYL b.f3) = some (cmpS (toY a) (toY b)) := by rw [codec_Compare.f, cmpV, ea, eb]
    have e2 : codec_Equal.f a.f0 a.f1 a.f2 (toYL a.f3) b.f0 b.f1 b.f2 (toYL b.f3) = some (cmpS (toY a) (toY b) == 0) := by rw [codec_Equal.f, e1]; rfl
    refine Ev.succ' ?_
    simp only [gangsawlaw02_CodecCompares.j0, Bool.false_eq_true, if_false]
    refine Ev.bind (compareE a b (by omega)) ?_
    refine Ev.bind y1 ?_
    refine Ev.bind y2 ?_
    simp only [e1, Option.bind_some, if_true]
    refine Ev.bind y1 ?_
    refine Ev.bind y2 ?_
    simp only [e2, Option.bind_some, beq_self_eq_true]
    exact Ev.some
  refine Ev.ex (f := fun k => gangsawlaw02_CodecCompares.f k a.f0 a.f1 a.f2 a.f3 b.f0 b.f1 b.f2 b.f3) ?_
  simp only [gangsawlaw02_CodecCompares.f, gangsawlaw02_awake.f, Option.bind_some, if_true]
  refine Ev.bind h1 ?_
  cases s1 with
  | false => simpa using hT
  | true =>
    simp only [if_true]
    refine Ev.bind h2 ?_
    cases s2 with
    | false => exact hT
    | true => exact hF (by have := (g1 rfl).1; omega) (by have := (g2 rfl).1; omega)
theorem codecCompares_lifted (os : Os) (started : os.Started) (H : Type) (enc : TypeId × Value → H) :
    ReturnsInHanded {} Tryd.checked os 7 .any (fun w args => (Rows.codecComparesSpec.pre enc Tryd.prog Tryd.f7 Rows.codecComparesRow.domain false w args ∧ laidMet Tryd.prog laidL w) ∧ sizedMet enc Tryd.prog Tryd.f7 (OpenSpec.ofChange Rows.codecComparesSpec) false w args)
      (Rows.codecComparesSpec.post enc Tryd.prog Tryd.f7 false true false false) :=
  cod_lifted (rt := Tryd.f7.resultTypes[0]!) started Tryd.func7 (by kernel_rfl) rfl (by kernel_rfl) rfl (by kernel_rfl)
    (fun ds hl => by
      match ds, hl with
      | [d0, d1], _ => exact ⟨rfl, rfl, rfl⟩)
    (ChangeSpec.witness_shaped (enc := enc) (C := Tryd.checked) (os := os) (X := fun w _ => laidMet Tryd.prog laidL w) false (World.doorLaid Tryd.prog 400 os) #[.agg #[.int .i64 0, .int .i64 0, .string ByteArray.empty, .slice none 0 0], .agg #[.int .i64 0, .int .i64 0, .string ByteArray.empty, .slice none 0 0]] 8 rfl (World.shaped_of_RefB (by kernel_rfl) (by kernel_rfl)) (by kernel_rfl) (by kernel_rfl) (by kernel_rfl) (door_met os _))
    (fun args ds p W hA hv hG => by
      obtain ⟨base, hv⟩ := hv
      have hA' : DataW.TrodAll enc Tryd.prog W 0 (fun _ => true) true [24, 24] args.toList ds p := hA
      obtain ⟨v0, vs0, d0, ds0, p0, q0, hargs, rfl, rfl, h0, r0⟩ := trodAll_cons hA'
      obtain ⟨v1, vs1, d1, ds1, p1, q1, rfl, rfl, rfl, h1, r1⟩ := trodAll_cons r0
      obtain ⟨rfl, rfl, rfl⟩ := trodAll_nil r1
      obtain rfl : args = #[v0, v1] := by cases args; simp_all
      obtain ⟨y0, A0, c0, rfl, hl0, hC0, ho0⟩ := param24 h0
      obtain ⟨y1, A1, c1, rfl, hl1, hC1, ho1⟩ := param24 h1
      obtain ⟨k, hk⟩ := law7 y0 ho0 y1 ho1
      exact gangsawlaw02_CodecCompares.calls k y0.f0 y0.f1 y0.f2 A0 c0 y0.f3 y1.f0 y1.f1 y1.f2 A1 c1 y1.f3 true W hC0 hl0 hC1 hl1 hG hk)
theorem codecCompares_said : Rows.CodecComparesSaid :=
  OpenClaim.holds_of_wide 7 Tryd.f7 rfl rfl rfl rfl rfl rfl rfl ⟨rfl, rfl, rfl, rfl, rfl⟩ rfl rfl rfl rfl rfl (by kernel_rfl) Tryd.func7 (by kernel_rfl)
    (of_decide_eq_true (by kernel_rfl)) (by unfold Func.isWrapper; rw [if_neg (of_decide_eq_false (by kernel_rfl))]; exact ⟨rfl, rfl⟩)
    (fun os started H enc _ => codecCompares_lifted os started H enc)
/-- The statement: for all pairs of values, Compare and Equal return the specified results. -/
theorem codecCompares_holds : Rows.CodecComparesCardSaid :=
  Claim7.holds_tied_plain_at .later [] [.data, .data, .data] true (true, "40514f4e30e2e814d8b5f70127c84f538ceace12d102eaf17d18a4564461166b") false
    codecCompares_said (fun _ h => by cases h) (by kernel_rfl) (fun _ h => by cases h) codecCompares_row_tie rfl ⟨rfl, rfl⟩ (by kernel_rfl) rfl
    (fun f fn hf hfn => by
      obtain rfl : f = 7 := Option.some.inj ((show Tryd.prog.funcNamed "gangsaw/gangsawlaw02.CodecCompares" = some 7 by kernel_rfl).symm.trans hf) |>.symm
      obtain rfl : fn = Tryd.f7 := (Option.some.inj (Tryd.func7.symm.trans hfn)).symm
      exact ⟨by kernel_rfl, fun j t ht => by
        have ha : (Tryd.f7.params.toList.all fun t => !Tryd.prog.wantsStandIn t) = true := by kernel_rfl
        have hm : t ∈ Tryd.f7.params.toList := Array.mem_toList_iff.2 (Array.mem_of_getElem? ht)
        have h1 := List.all_eq_true.1 ha t hm
        have h2 : Tryd.prog.wantsStandIn t = false := by simpa using h1
        exact h2⟩)
    (by kernel_rfl)
end Go.Proofs.YtcmphojichgfeaaDoor
