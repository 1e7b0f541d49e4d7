/- The codec seat: Compare is a total order: it changes its sign with its arguments, is transitive, and is 0 only for equal values; for every input, without a condition. -/
import Derived.Test.YtcmphojichgfeaaDoorCG3
import Derived.Test.YtcmphojichgfeaaDoorCO2
import Derived.Test.YtcmphojichgfeaaDoorRows
import Derived.Test.YtcmphojichgfeaaDoorTie
import Derived.Test.YtcmphojichgfeaaDoorCards
import Derived.SevenTiedAt
namespace Go.Proofs.YtcmphojichgfeaaDoor
open Go.ChangeShapes Go.WideShapes Go.ChangeAt Go.RowKit QC
set_option linter.unusedVariables false
set_option linter.unusedSimpArgs false
set_option maxRecDepth 100000
theorem law8 (a b c : S24) (Aa Ab Ac : Option Addr) (ca cb cc : Nat) (w : World) (ha : PR w a Aa ca) (hb : PR w b Ab cb) (hc : PR w c Ac cc) (hG : GG w) (oa : okV a) (ob : okV b) (oc : okV c) :
    Calls Tryd.prog 8 #[.agg #[.int .i64 a.f0, .int .i64 a.f1, .string a.f2, .slice Aa a.f3.length ca], .agg #[.int .i64 b.f0, .int .i64 b.f1, .string b.f2, .slice Ab b.f3.length cb], .agg #[.int .i64 c.f0, .int .i64 c.f1, .string c.f2, .slice Ac c.f3.length cc]] w fun e w' => e = .returned (.bool true) ∧ Below w.heap.size w w' := by
  obtain ⟨sa, ea, ga⟩ := smallE a (okB_of oa) 40 (by omega) (by omega)
  obtain ⟨sb, eb, gb⟩ := smallE b (okB_of ob) 40 (by omega) (by omega)
  obtain ⟨sc, ec, gc⟩ := smallE c (okB_of oc) 40 (by omega) (by omega)
  obtain ⟨ka, hka⟩ := ea.ex
  obtain ⟨kb, hkb⟩ := eb.ex
  obtain ⟨kc, hkc⟩ := ec.ex
  by_cases h : sa = false ∨ sb = false ∨ sc = false
  · exact ordS a b c Aa Ab Ac ca cb cc w ha hb hc hG ka sa hka kb sb hkb kc sc hkc h
  · have h1 : sa = true := by cases sa with | true => rfl | false => exact absurd (.inl rfl) h
    have h2 : sb = true := by cases sb with | true => rfl | false => exact absurd (.inr (.inl rfl)) h
    have h3 : sc = true := by cases sc with | true => rfl | false => exact absurd (.inr (.inr rfl)) h
    subst h1 h2 h3
    obtain ⟨na, _⟩ := ga rfl
    obtain ⟨nb, _⟩ := gb rfl
    obtain ⟨nc, _⟩ := gc rfl
    obtain ⟨ya, hya⟩ := (yoursE _ a (Nat.le_refl _) (by omega)).ex
    obtain ⟨yb, hyb⟩ := (yoursE _ b (Nat.le_refl _) (by omega)).ex
    obtain ⟨yc, hyc⟩ := (yoursE _ c (Nat.le_refl _) (by omega)).ex
    exact ordB a b c Aa Ab Ac ca cb cc w ha hb hc hG ka hka kb hkb kc hkc ⟨a.f0, a.f1, a.f2, toYL a.f3⟩ ya hya ⟨b.f0, b.f1, b.f2, toYL b.f3⟩ yb hyb ⟨c.f0, c.f1, c.f2, toYL c.f3⟩ yc hyc
theorem codecOrders_lifted (os : Os) (started : os.Started) (H : Type) (enc : TypeId × Value → H) :
    ReturnsInHanded {} Tryd.checked os 8 .any (fun w args => (Rows.codecOrdersSpec.pre enc Tryd.prog Tryd.f8 Rows.codecOrdersRow.domain false w args ∧ laidMet Tryd.prog laidL w) ∧ sizedMet enc Tryd.prog Tryd.f8 (OpenSpec.ofChange Rows.codecOrdersSpec) false w args)
      (Rows.codecOrdersSpec.post enc Tryd.prog Tryd.f8 false true false false) :=
  cod_lifted (rt := Tryd.f8.resultTypes[0]!) started Tryd.func8 (by kernel_rfl) rfl (by kernel_rfl) rfl (by kernel_rfl)
    (fun ds hl => by
      match ds, hl with
      | [d0, d1, d2], _ => exact ⟨rfl, rfl, rfl⟩)
    (ChangeSpec.witness_shaped (enc := enc) (C := Tryd.checked) (os := os) (X := fun w _ => laidMet Tryd.prog laidL w) false (World.doorLaid Tryd.prog 400 os) #[.agg #[.int .i64 0, .int .i64 0, .string ByteArray.empty, .slice none 0 0], .agg #[.int .i64 0, .int .i64 0, .string ByteArray.empty, .slice none 0 0], .agg #[.int .i64 0, .int .i64 0, .string ByteArray.empty, .slice none 0 0]] 8 rfl (World.shaped_of_RefB (by kernel_rfl) (by kernel_rfl)) (by kernel_rfl) (by kernel_rfl) (by kernel_rfl) (door_met os _))
    (fun args ds p W hA hv hG => by
      obtain ⟨base, hv⟩ := hv
      have hA' : DataW.TrodAll enc Tryd.prog W 0 (fun _ => true) true [24, 24, 24] args.toList ds p := hA
      obtain ⟨v0, vs0, d0, ds0, p0, q0, hargs, rfl, rfl, h0, r0⟩ := trodAll_cons hA'
      obtain ⟨v1, vs1, d1, ds1, p1, q1, rfl, rfl, rfl, h1, r1⟩ := trodAll_cons r0
      obtain ⟨v2, vs2, d2, ds2, p2, q2, rfl, rfl, rfl, h2, r2⟩ := trodAll_cons r1
      obtain ⟨rfl, rfl, rfl⟩ := trodAll_nil r2
      obtain rfl : args = #[v0, v1, v2] := by cases args; simp_all
      obtain ⟨y0, A0, c0, rfl, hl0, hC0, ho0⟩ := param24 h0
      obtain ⟨y1, A1, c1, rfl, hl1, hC1, ho1⟩ := param24 h1
      obtain ⟨y2, A2, c2, rfl, hl2, hC2, ho2⟩ := param24 h2
      exact law8 y0 y1 y2 A0 A1 A2 c0 c1 c2 W ⟨hC0, hl0⟩ ⟨hC1, hl1⟩ ⟨hC2, hl2⟩ hG ho0 ho1 ho2)
theorem codecOrders_said : Rows.CodecOrdersSaid :=
  OpenClaim.holds_of_wide 8 Tryd.f8 rfl rfl rfl rfl rfl rfl rfl ⟨rfl, rfl, rfl, rfl, rfl⟩ rfl rfl rfl rfl rfl (by kernel_rfl) Tryd.func8 (by kernel_rfl)
    (of_decide_eq_true (by kernel_rfl)) (by unfold Func.isWrapper; rw [if_neg (of_decide_eq_false (by kernel_rfl))]; exact ⟨rfl, rfl⟩)
    (fun os started H enc _ => codecOrders_lifted os started H enc)
/-- The statement: Compare is a total order: it changes its sign with its arguments, is transitive, and is 0 only for equal values. -/
theorem codecOrders_holds : Rows.CodecOrdersCardSaid :=
  Claim7.holds_tied_plain_at .later [] [.data, .data, .data] true (true, "40514f4e30e2e814d8b5f70127c84f538ceace12d102eaf17d18a4564461166b") false
    codecOrders_said (fun _ h => by cases h) (by kernel_rfl) (fun _ h => by cases h) codecOrders_row_tie rfl ⟨rfl, rfl⟩ (by kernel_rfl) rfl
    (fun f fn hf hfn => by
      obtain rfl : f = 8 := Option.some.inj ((show Tryd.prog.funcNamed "gangsaw/gangsawlaw02.CodecOrders" = some 8 by kernel_rfl).symm.trans hf) |>.symm
      obtain rfl : fn = Tryd.f8 := (Option.some.inj (Tryd.func8.symm.trans hfn)).symm
      exact ⟨by kernel_rfl, fun j t ht => by
        have ha : (Tryd.f8.params.toList.all fun t => !Tryd.prog.wantsStandIn t) = true := by kernel_rfl
        have hm : t ∈ Tryd.f8.params.toList := Array.mem_toList_iff.2 (Array.mem_of_getElem? ht)
        have h1 := List.all_eq_true.1 ha t hm
        have h2 : Tryd.prog.wantsStandIn t = false := by simpa using h1
        exact h2⟩)
    (by kernel_rfl)
end Go.Proofs.YtcmphojichgfeaaDoor
