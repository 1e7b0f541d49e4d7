/- The codec seat: Compare, walked by hand. -/
import Derived.Test.YtcmphojichgfeaaDoorCH2a
namespace Go.Proofs.YtcmphojichgfeaaDoor.QC
open Go.RowKit Go.Proofs.YtcmphojichgfeaaDoorW.PrintWords Go.Proofs.YtcmphojichgfeaaDoorW.PrintLast Go.Proofs.YtcmphojichgfeaaDoorW.PrintMore
set_option linter.unusedVariables false
set_option linter.unusedSimpArgs false
attribute [local go_sem] max2_int min2_int max_two min_two
theorem C_four (w : World) (g : Nat) (c1 c2 c3 c4 : Int) (h : w.heap[g]? = some (.cells #[.int .i64 c1, .int .i64 c2, .int .i64 c3, .int .i64 c4] 3 (0, 0))) : Kd.C (Kd.int .i64) w (some ⟨g, 0, none⟩) 4 [c1, c2, c3, c4] := by
  refine ⟨rfl, by omega, fun _ => ⟨⟨g, 0, none⟩, rfl, fun j p hj => ?_⟩⟩
  refine ⟨[.int .i64 p], rfl, rfl, fun i u hi => ?_⟩
  cases i with
  | succ i => simp at hi
  | zero =>
    simp only [List.getElem?_cons_zero, Option.some.injEq] at hi
    subst hi
    have hlt : j < 4 := (List.getElem?_eq_some_iff.1 hj).1
    rw [show (Kd.int IntKind.i64).sz = 1 from rfl, add_plain]
    refine (blk_cell h _).trans ?_
    match j, hlt, hj with
    | 0, _, hj => simp at hj; subst hj; rfl
    | 1, _, hj => simp at hj; subst hj; rfl
    | 2, _, hj => simp at hj; subst hj; rfl
    | 3, _, hj => simp at hj; subst hj; rfl
set_option maxHeartbeats 8000000 in
theorem cmpC (a b : Int) (s : ByteArray) (l : List S32) (a' b' : Int) (s' : ByteArray) (l' : List S32) (ih : ∀ x ∈ l, ∀ y ∈ l', OkCmp x.f0 x.f1 x.f2 x.f3 y.f0 y.f1 y.f2 y.f3) : OkCmp a b s l a' b' s' l' := by
  intro A c A' c' w hr hc hr' hc'
  have HB := Aside0.mk (Below.refl w.heap.size w)
  have HR := Aside0.mk hr
  have HC := Aside0.mk hc
  have HR' := Aside0.mk hr'
  have HC' := Aside0.mk hc'
  have IH := Aside0.mk ih
  clear hr hc hr' hc' ih
  obtain ⟨R, hR⟩ : ∃ R, R = cmpV a b s l a' b' s' l' := ⟨_, rfl⟩
  rw [← hR]
  have HRR := Aside0.mk hR
  clear hR
  go_enter Tryd.func25, Tryd.ntmps25
  go_wp2_with (first | ((with_reducible refine gate_dst (N := 2) rfl ?_); refine box_event ?hg (N := 2) ?hd (cs := #[.int .i64 a, .int .i64 b, .string s, .slice A l.length c]) (t := 32) ?hr ?_; (case hd => rfl); (case hg => rfl); (case hr => first | (go_simp; done) | (go_simp; rfl)); intro g2 hg w2 hbox hb; have GE_g2 : w.heap.size ≤ g2 := (by rw [hg]; exact (below_size (blL HB.out))); have nB_ := Aside0.mk (bbL HB.out hb); clear HB; have HB := nB_; clear  nB_ ; have B_g2 := Aside0.mk hbox; clear hb hbox hg; have hc_g2_0 : w2.cell? ⟨g2, 0, none⟩ = some (.int .i64 a) := (blk_cell B_g2.out 0).trans rfl; have hf_g2_0 := blk_frozen B_g2.out 0; have hc_g2_1 : w2.cell? ⟨g2, 1, none⟩ = some (.int .i64 b) := (blk_cell B_g2.out 1).trans rfl; have hf_g2_1 := blk_frozen B_g2.out 1; have hc_g2_2 : w2.cell? ⟨g2, 2, none⟩ = some (.string s) := (blk_cell B_g2.out 2).trans rfl; have hf_g2_2 := blk_frozen B_g2.out 2; have hc_g2_3 : w2.cell? ⟨g2, 3, none⟩ = some (.slice A l.length c) := (blk_cell B_g2.out 3).trans rfl; have hf_g2_3 := blk_frozen B_g2.out 3) | ((with_reducible refine gate_dst (N := 3) rfl ?_); refine box_event ?hg (N := 3) ?hd (cs := #[.int .i64 a', .int .i64 b', .string s', .slice A' l'.length c']) (t := 32) ?hr ?_; (case hd => rfl); (case hg => rfl); (case hr => first | (go_simp; done) | (go_simp; rfl)); intro g3 hg w3 hbox hb; have GE_g3 : w.heap.size ≤ g3 := (by rw [hg]; exact (below_size (blL HB.out))); have NE_g2_g3 : g2 ≠ g3 := (by rw [hg]; exact Nat.ne_of_lt (lL B_g2.out)); have NE_g3_g2 := NE_g2_g3.symm; have n0_ := Aside0.mk (bL B_g2.out hb); have nB_ := Aside0.mk (bbL HB.out hb); clear B_g2 HB; have B_g2 := n0_; have HB := nB_; clear n0_ nB_ ; have B_g3 := Aside0.mk hbox; clear hb hbox hg; have hc_g2_0 : w3.cell? ⟨g2, 0, none⟩ = some (.int .i64 a) := (blk_cell B_g2.out 0).trans rfl; have hf_g2_0 := blk_frozen B_g2.out 0; have hc_g2_1 : w3.cell? ⟨g2, 1, none⟩ = some (.int .i64 b) := (blk_cell B_g2.out 1).trans rfl; have hf_g2_1 := blk_frozen B_g2.out 1; have hc_g2_2 : w3.cell? ⟨g2, 2, none⟩ = some (.string s) := (blk_cell B_g2.out 2).trans rfl; have hf_g2_2 := blk_frozen B_g2.out 2; have hc_g2_3 : w3.cell? ⟨g2, 3, none⟩ = some (.slice A l.length c) := (blk_cell B_g2.out 3).trans rfl; have hf_g2_3 := blk_frozen B_g2.out 3; have hc_g3_0 : w3.cell? ⟨g3, 0, none⟩ = some (.int .i64 a') := (blk_cell B_g3.out 0).trans rfl; have hf_g3_0 := blk_frozen B_g3.out 0; have hc_g3_1 : w3.cell? ⟨g3, 1, none⟩ = some (.int .i64 b') := (blk_cell B_g3.out 1).trans rfl; have hf_g3_1 := blk_frozen B_g3.out 1; have hc_g3_2 : w3.cell? ⟨g3, 2, none⟩ = some (.string s') := (blk_cell B_g3.out 2).trans rfl; have hf_g3_2 := blk_frozen B_g3.out 2; have hc_g3_3 : w3.cell? ⟨g3, 3, none⟩ = some (.slice A' l'.length c') := (blk_cell B_g3.out 3).trans rfl; have hf_g3_3 := blk_frozen B_g3.out 3))
  clear hc_g2_0 hf_g2_0 hc_g2_1 hf_g2_1 hc_g2_2 hf_g2_2 hc_g2_3 hf_g2_3 hc_g3_0 hf_g3_0 hc_g3_1 hf_g3_1 hc_g3_2 hf_g3_2 hc_g3_3 hf_g3_3
  obtain ⟨XF, hXF⟩ : ∃ XF : Nat → Option Value, XF = fun k => (([some (.pointer (some ⟨g2, 0, none⟩)), some (.int .i64 a), some (.pointer (some ⟨g3, 0, none⟩)), some (.int .i64 a'), some (.int .i64 (Lib.compareInt a a')), some (.pointer (some ⟨g2, 1, none⟩)), some (.int .i64 b), some (.pointer (some ⟨g3, 1, none⟩)), some (.int .i64 b'), some (.int .i64 (Lib.compareInt b b')), some (.pointer (some ⟨g2, 2, none⟩)), some (.string s), some (.pointer (some ⟨g3, 2, none⟩)), some (.string s'), some (.int .i64 (Lib.compareBytes s.data.toList s'.data.toList)), some (.pointer (some ⟨g2, 3, none⟩)), some (.slice A l.length c), some (.pointer (some ⟨g3, 3, none⟩)), some (.slice A' l'.length c'), some (.int .i64 (cmpL l l')), none, some (.int .i64 R), some (.int .i64 R)] : List (Option Value))[k]?).join := ⟨_, rfl⟩
  have X0 : XF 0 = some (.pointer (some ⟨g2, 0, none⟩)) := by rw [hXF]; rfl
  have X1 : XF 1 = some (.int .i64 a) := by rw [hXF]; rfl
  have X2 : XF 2 = some (.pointer (some ⟨g3, 0, none⟩)) := by rw [hXF]; rfl
  have X3 : XF 3 = some (.int .i64 a') := by rw [hXF]; rfl
  have X4 : XF 4 = some (.int .i64 (Lib.compareInt a a')) := by rw [hXF]; rfl
  have X5 : XF 5 = some (.pointer (some ⟨g2, 1, none⟩)) := by rw [hXF]; rfl
  have X6 : XF 6 = some (.int .i64 b) := by rw [hXF]; rfl
  have X7 : XF 7 = some (.pointer (some ⟨g3, 1, none⟩)) := by rw [hXF]; rfl
  have X8 : XF 8 = some (.int .i64 b') := by rw [hXF]; rfl
  have X9 : XF 9 = some (.int .i64 (Lib.compareInt b b')) := by rw [hXF]; rfl
  have X10 : XF 10 = some (.pointer (some ⟨g2, 2, none⟩)) := by rw [hXF]; rfl
  have X11 : XF 11 = some (.string s) := by rw [hXF]; rfl
  have X12 : XF 12 = some (.pointer (some ⟨g3, 2, none⟩)) := by rw [hXF]; rfl
  have X13 : XF 13 = some (.string s') := by rw [hXF]; rfl
  have X14 : XF 14 = some (.int .i64 (Lib.compareBytes s.data.toList s'.data.toList)) := by rw [hXF]; rfl
  have X15 : XF 15 = some (.pointer (some ⟨g2, 3, none⟩)) := by rw [hXF]; rfl
  have X16 : XF 16 = some (.slice A l.length c) := by rw [hXF]; rfl
  have X17 : XF 17 = some (.pointer (some ⟨g3, 3, none⟩)) := by rw [hXF]; rfl
  have X18 : XF 18 = some (.slice A' l'.length c') := by rw [hXF]; rfl
  have X19 : XF 19 = some (.int .i64 (cmpL l l')) := by rw [hXF]; rfl
  have X20 : XF 20 = none := by rw [hXF]; rfl
  have X21 : XF 21 = some (.int .i64 R) := by rw [hXF]; rfl
  have X22 : XF 22 = some (.int .i64 R) := by rw [hXF]; rfl
  have XN : ∀ k, 23 ≤ k → XF k = none := by
    intro k hk
    rw [hXF]
    simp only []
    rw [List.getElem?_eq_none (by simpa using hk)]
    rfl
  clear hXF
  obtain ⟨BF, hBF⟩ : ∃ BF : Nat → Value → World → Prop, BF = fun k v w => k = 20 → ∃ g, v = .slice (some ⟨g, 0, none⟩) 4 4 ∧ w.heap[g]? = some (.cells #[.int .i64 (Lib.compareInt a a'), .int .i64 (Lib.compareInt b b'), .int .i64 (Lib.compareBytes s.data.toList s'.data.toList), .int .i64 (cmpL l l')] 3 (0, 0)) := ⟨_, rfl⟩
  have hBm : ∀ k v w w', BF k v w → Below w.heap.size w w' → BF k v w' := by
    subst hBF
    intro k v w w' h hb hk
    obtain ⟨g, h1, h2⟩ := h hk
    exact ⟨g, h1, blk_below h2 hb⟩
  refine wp_region_noPanic ?_
  refine DR.wp_region_inv [some 5, some 6, some 7, some 8, some 9, some 10, some 11, some 12, some 13, some 14, some 15, some 16, some 17, some 18, some 19, some 20, some 21, some 22, some 23, some 24, some 25, some 26, some 4] (DR.JV XF BF w3.heap.size w3) (by kernel_rfl) (by kernel_rfl) (by kernel_rfl) (by kernel_rfl) (fun vals => DR.JV.init (below_drew (Below.refl _ _)) (Nat.le_refl _) vals) ?step ?fin
  case fin =>
    intro vals w13 hJ
    have v0 := hJ.val 0 _ X0 rfl
    have v1 := hJ.val 1 _ X1 rfl
    have v2 := hJ.val 2 _ X2 rfl
    have v3 := hJ.val 3 _ X3 rfl
    have v4 := hJ.val 4 _ X4 rfl
    have v5 := hJ.val 5 _ X5 rfl
    have v6 := hJ.val 6 _ X6 rfl
    have v7 := hJ.val 7 _ X7 rfl
    have v8 := hJ.val 8 _ X8 rfl
    have v9 := hJ.val 9 _ X9 rfl
    have v10 := hJ.val 10 _ X10 rfl
    have v11 := hJ.val 11 _ X11 rfl
    have v12 := hJ.val 12 _ X12 rfl
    have v13 := hJ.val 13 _ X13 rfl
    have v14 := hJ.val 14 _ X14 rfl
    have v15 := hJ.val 15 _ X15 rfl
    have v16 := hJ.val 16 _ X16 rfl
    have v17 := hJ.val 17 _ X17 rfl
    have v18 := hJ.val 18 _ X18 rfl
    have v19 := hJ.val 19 _ X19 rfl
    have v21 := hJ.val 21 _ X21 rfl
    have v22 := hJ.val 22 _ X22 rfl
    have HJ := Aside0.mk hJ.below
    obtain ⟨v20, hv20⟩ : ∃ v20, v20 = vals 20 := ⟨_, rfl⟩
    clear hJ hBm hBF XN X0 X1 X2 X3 X4 X5 X6 X7 X8 X9 X10 X11 X12 X13 X14 X15 X16 X17 X18 X19 X20 X21 X22
    refine NoPanic.normal ?_
    simp only [DR.putAll, ← hv20, v0, v1, v2, v3, v4, v5, v6, v7, v8, v9, v10, v11, v12, v13, v14, v15, v16, v17, v18, v19, v21, v22]
    simp only [Act.put, List.setIfInBounds_toArray, List.set_cons_zero, List.set_cons_succ]
    clear hv20 v0 v1 v2 v3 v4 v5 v6 v7 v8 v9 v10 v11 v12 v13 v14 v15 v16 v17 v18 v19 v21 v22
    go_wp2
    go_ret
    exact ⟨rfl, below_step HB.out HJ.out⟩
  case step =>
    intro j o ls vals a0_ w13 ho hj hpre hS hJ
    have hjlt : j < 23 := (Array.getElem?_eq_some_iff.1 ho).1
    obtain rfl | rfl | rfl | rfl | rfl | rfl | rfl | rfl | rfl | rfl | rfl | rfl | rfl | rfl | rfl | rfl | rfl | rfl | rfl | rfl | rfl | rfl | rfl : j = 0 ∨ j = 1 ∨ j = 2 ∨ j = 3 ∨ j = 4 ∨ j = 5 ∨ j = 6 ∨ j = 7 ∨ j = 8 ∨ j = 9 ∨ j = 10 ∨ j = 11 ∨ j = 12 ∨ j = 13 ∨ j = 14 ∨ j = 15 ∨ j = 16 ∨ j = 17 ∨ j = 18 ∨ j = 19 ∨ j = 20 ∨ j = 21 ∨ j = 22 := by omega
    · cases ho
      have e2 : a0_.tmps[2]?.getD undef = .pointer (some ⟨g2, 0, none⟩) := (DR.eval_get a0_ _).trans (hS.out' rfl rfl)
      refine DR.wpOp_run (v := .pointer (some ⟨g2, 0, none⟩)) (w' := w13) rfl rfl ?_ ⟨_, rfl, hJ.value hBm X0 (Below.refl _ _)⟩
      clear hS hJ hpre hBm XN
      go_simp
    · cases ho
      have p0 : ls 0 = true := hpre { on := 0, ground := Ground.data } (by simp) rfl
      have e5 : a0_.tmps[5]?.getD undef = .pointer (some ⟨g2, 0, none⟩) := (DR.eval_get a0_ _).trans ((hS.on 0 5 rfl p0).trans (hJ.val 0 _ X0 p0))
      have hc : w13.cell? ⟨g2, 0, none⟩ = some (.int .i64 a) := (blk_cell (blk_below B_g2.out hJ.below) 0).trans rfl
      refine DR.wpOp_run (v := .int .i64 a) (w' := w13) rfl rfl ?_ ⟨_, rfl, hJ.value hBm X1 (Below.refl _ _)⟩
      clear hS hJ hpre hBm XN
      go_simp
    · cases ho
      have e3 : a0_.tmps[3]?.getD undef = .pointer (some ⟨g3, 0, none⟩) := (DR.eval_get a0_ _).trans (hS.out' rfl rfl)
      refine DR.wpOp_run (v := .pointer (some ⟨g3, 0, none⟩)) (w' := w13) rfl rfl ?_ ⟨_, rfl, hJ.value hBm X2 (Below.refl _ _)⟩
      clear hS hJ hpre hBm XN
      go_simp
    · cases ho
      have p2 : ls 2 = true := hpre { on := 2, ground := Ground.data } (by simp) rfl
      have e7 : a0_.tmps[7]?.getD undef = .pointer (some ⟨g3, 0, none⟩) := (DR.eval_get a0_ _).trans ((hS.on 2 7 rfl p2).trans (hJ.val 2 _ X2 p2))
      have hc : w13.cell? ⟨g3, 0, none⟩ = some (.int .i64 a') := (blk_cell (blk_below B_g3.out hJ.below) 0).trans rfl
      refine DR.wpOp_run (v := .int .i64 a') (w' := w13) rfl rfl ?_ ⟨_, rfl, hJ.value hBm X3 (Below.refl _ _)⟩
      clear hS hJ hpre hBm XN
      go_simp
    · cases ho
      have p1 : ls 1 = true := hpre { on := 1, ground := Ground.data } (by simp) rfl
      have p3 : ls 3 = true := hpre { on := 3, ground := Ground.data } (by simp) rfl
      have e6 : a0_.tmps[6]?.getD undef = .int .i64 a := (DR.eval_get a0_ _).trans ((hS.on 1 6 rfl p1).trans (hJ.val 1 _ X1 p1))
      have e8 : a0_.tmps[8]?.getD undef = .int .i64 a' := (DR.eval_get a0_ _).trans ((hS.on 3 8 rfl p3).trans (hJ.val 3 _ X3 p3))
      have E6 := (DR.eval_get a0_ 6).symm.trans e6
      have E8 := (DR.eval_get a0_ 8).symm.trans e8
      refine DR.wpOp_call rfl rfl Tryd.func42 (by kernel_rfl) rfl #[.int .i64 a, .int .i64 a'] rfl (by simp only [List.map_toArray, List.map_cons, List.map_nil, E6, E8]; try rfl) ?_
      refine (Tryd.cmp_Compare_int a a' w13).mono ?_
      rintro e wc ⟨rfl, rfl⟩
      exact ⟨_, rfl, _, rfl, hJ.value hBm X4 (Below.refl _ _)⟩
    · cases ho
      have e2 : a0_.tmps[2]?.getD undef = .pointer (some ⟨g2, 0, none⟩) := (DR.eval_get a0_ _).trans (hS.out' rfl rfl)
      refine DR.wpOp_run (v := .pointer (some ⟨g2, 1, none⟩)) (w' := w13) rfl rfl ?_ ⟨_, rfl, hJ.value hBm X5 (Below.refl _ _)⟩
      clear hS hJ hpre hBm XN
      go_simp
    · cases ho
      have p5 : ls 5 = true := hpre { on := 5, ground := Ground.data } (by simp) rfl
      have e10 : a0_.tmps[10]?.getD undef = .pointer (some ⟨g2, 1, none⟩) := (DR.eval_get a0_ _).trans ((hS.on 5 10 rfl p5).trans (hJ.val 5 _ X5 p5))
      have hc : w13.cell? ⟨g2, 1, none⟩ = some (.int .i64 b) := (blk_cell (blk_below B_g2.out hJ.below) 1).trans rfl
      refine DR.wpOp_run (v := .int .i64 b) (w' := w13) rfl rfl ?_ ⟨_, rfl, hJ.value hBm X6 (Below.refl _ _)⟩
      clear hS hJ hpre hBm XN
      go_simp
    · cases ho
      have e3 : a0_.tmps[3]?.getD undef = .pointer (some ⟨g3, 0, none⟩) := (DR.eval_get a0_ _).trans (hS.out' rfl rfl)
      refine DR.wpOp_run (v := .pointer (some ⟨g3, 1, none⟩)) (w' := w13) rfl rfl ?_ ⟨_, rfl, hJ.value hBm X7 (Below.refl _ _)⟩
      clear hS hJ hpre hBm XN
      go_simp
    · cases ho
      have p7 : ls 7 = true := hpre { on := 7, ground := Ground.data } (by simp) rfl
      have e12 : a0_.tmps[12]?.getD undef = .pointer (some ⟨g3, 1, none⟩) := (DR.eval_get a0_ _).trans ((hS.on 7 12 rfl p7).trans (hJ.val 7 _ X7 p7))
      have hc : w13.cell? ⟨g3, 1, none⟩ = some (.int .i64 b') := (blk_cell (blk_below B_g3.out hJ.below) 1).trans rfl
      refine DR.wpOp_run (v := .int .i64 b') (w' := w13) rfl rfl ?_ ⟨_, rfl, hJ.value hBm X8 (Below.refl _ _)⟩
      clear hS hJ hpre hBm XN
      go_simp
    · cases ho
      have p6 : ls 6 = true := hpre { on := 6, ground := Ground.data } (by simp) rfl
      have p8 : ls 8 = true := hpre { on := 8, ground := Ground.data } (by simp) rfl
      have e11 : a0_.tmps[11]?.getD undef = .int .i64 b := (DR.eval_get a0_ _).trans ((hS.on 6 11 rfl p6).trans (hJ.val 6 _ X6 p6))
      have e13 : a0_.tmps[13]?.getD undef = .int .i64 b' := (DR.eval_get a0_ _).trans ((hS.on 8 13 rfl p8).trans (hJ.val 8 _ X8 p8))
      have E11 := (DR.eval_get a0_ 11).symm.trans e11
      have E13 := (DR.eval_get a0_ 13).symm.trans e13
      refine DR.wpOp_call rfl rfl Tryd.func43 (by kernel_rfl) rfl #[.int .i64 b, .int .i64 b'] rfl (by simp only [List.map_toArray, List.map_cons, List.map_nil, E11, E13]; try rfl) ?_
      refine (cmp_Compare_int64.calls b b' _ w13 (cmp64 b b')).mono ?_
      rintro e wc ⟨rfl, ⟨nd, rfl⟩⟩
      exact ⟨_, rfl, _, rfl, hJ.value hBm X9 (pw_below_drewN (Below.refl _ _) nd)⟩
    · cases ho
      have e2 : a0_.tmps[2]?.getD undef = .pointer (some ⟨g2, 0, none⟩) := (DR.eval_get a0_ _).trans (hS.out' rfl rfl)
      refine DR.wpOp_run (v := .pointer (some ⟨g2, 2, none⟩)) (w' := w13) rfl rfl ?_ ⟨_, rfl, hJ.value hBm X10 (Below.refl _ _)⟩
      clear hS hJ hpre hBm XN
      go_simp
    · cases ho
      have p10 : ls 10 = true := hpre { on := 10, ground := Ground.data } (by simp) rfl
      have e15 : a0_.tmps[15]?.getD undef = .pointer (some ⟨g2, 2, none⟩) := (DR.eval_get a0_ _).trans ((hS.on 10 15 rfl p10).trans (hJ.val 10 _ X10 p10))
      have hc : w13.cell? ⟨g2, 2, none⟩ = some (.string s) := (blk_cell (blk_below B_g2.out hJ.below) 2).trans rfl
      refine DR.wpOp_run (v := .string s) (w' := w13) rfl rfl ?_ ⟨_, rfl, hJ.value hBm X11 (Below.refl _ _)⟩
      clear hS hJ hpre hBm XN
      go_simp
    · cases ho
      have e3 : a0_.tmps[3]?.getD undef = .pointer (some ⟨g3, 0, none⟩) := (DR.eval_get a0_ _).trans (hS.out' rfl rfl)
      refine DR.wpOp_run (v := .pointer (some ⟨g3, 2, none⟩)) (w' := w13) rfl rfl ?_ ⟨_, rfl, hJ.value hBm X12 (Below.refl _ _)⟩
      clear hS hJ hpre hBm XN
      go_simp
    · cases ho
      have p12 : ls 12 = true := hpre { on := 12, ground := Ground.data } (by simp) rfl
      have e17 : a0_.tmps[17]?.getD undef = .pointer (some ⟨g3, 2, none⟩) := (DR.eval_get a0_ _).trans ((hS.on 12 17 rfl p12).trans (hJ.val 12 _ X12 p12))
      have hc : w13.cell? ⟨g3, 2, none⟩ = some (.string s') := (blk_cell (blk_below B_g3.out hJ.below) 2).trans rfl
      refine DR.wpOp_run (v := .string s') (w' := w13) rfl rfl ?_ ⟨_, rfl, hJ.value hBm X13 (Below.refl _ _)⟩
      clear hS hJ hpre hBm XN
      go_simp
    · cases ho
      have p11 : ls 11 = true := hpre { on := 11, ground := Ground.data } (by simp) rfl
      have p13 : ls 13 = true := hpre { on := 13, ground := Ground.data } (by simp) rfl
      have e16 : a0_.tmps[16]?.getD undef = .string s := (DR.eval_get a0_ _).trans ((hS.on 11 16 rfl p11).trans (hJ.val 11 _ X11 p11))
      have e18 : a0_.tmps[18]?.getD undef = .string s' := (DR.eval_get a0_ _).trans ((hS.on 13 18 rfl p13).trans (hJ.val 13 _ X13 p13))
      have E16 := (DR.eval_get a0_ 16).symm.trans e16
      have E18 := (DR.eval_get a0_ 18).symm.trans e18
      refine DR.wpOp_call rfl rfl Tryd.func44 (by kernel_rfl) rfl #[.string s, .string s'] rfl (by simp only [List.map_toArray, List.map_cons, List.map_nil, E16, E18]; try rfl) ?_
      refine (Tryd.strings_Compare s s' w13).mono ?_
      rintro e wc ⟨rfl, rfl⟩
      exact ⟨_, rfl, _, rfl, hJ.value hBm X14 (Below.refl _ _)⟩
    · cases ho
      have e2 : a0_.tmps[2]?.getD undef = .pointer (some ⟨g2, 0, none⟩) := (DR.eval_get a0_ _).trans (hS.out' rfl rfl)
      refine DR.wpOp_run (v := .pointer (some ⟨g2, 3, none⟩)) (w' := w13) rfl rfl ?_ ⟨_, rfl, hJ.value hBm X15 (Below.refl _ _)⟩
      clear hS hJ hpre hBm XN
      go_simp
    · cases ho
      have p15 : ls 15 = true := hpre { on := 15, ground := Ground.data } (by simp) rfl
      have e20 : a0_.tmps[20]?.getD undef = .pointer (some ⟨g2, 3, none⟩) := (DR.eval_get a0_ _).trans ((hS.on 15 20 rfl p15).trans (hJ.val 15 _ X15 p15))
      have hc : w13.cell? ⟨g2, 3, none⟩ = some (.slice A l.length c) := (blk_cell (blk_below B_g2.out hJ.below) 3).trans rfl
      refine DR.wpOp_run (v := .slice A l.length c) (w' := w13) rfl rfl ?_ ⟨_, rfl, hJ.value hBm X16 (Below.refl _ _)⟩
      clear hS hJ hpre hBm XN
      go_simp
    · cases ho
      have e3 : a0_.tmps[3]?.getD undef = .pointer (some ⟨g3, 0, none⟩) := (DR.eval_get a0_ _).trans (hS.out' rfl rfl)
      refine DR.wpOp_run (v := .pointer (some ⟨g3, 3, none⟩)) (w' := w13) rfl rfl ?_ ⟨_, rfl, hJ.value hBm X17 (Below.refl _ _)⟩
      clear hS hJ hpre hBm XN
      go_simp
    · cases ho
      have p17 : ls 17 = true := hpre { on := 17, ground := Ground.data } (by simp) rfl
      have e22 : a0_.tmps[22]?.getD undef = .pointer (some ⟨g3, 3, none⟩) := (DR.eval_get a0_ _).trans ((hS.on 17 22 rfl p17).trans (hJ.val 17 _ X17 p17))
      have hc : w13.cell? ⟨g3, 3, none⟩ = some (.slice A' l'.length c') := (blk_cell (blk_below B_g3.out hJ.below) 3).trans rfl
      refine DR.wpOp_run (v := .slice A' l'.length c') (w' := w13) rfl rfl ?_ ⟨_, rfl, hJ.value hBm X18 (Below.refl _ _)⟩
      clear hS hJ hpre hBm XN
      go_simp
    · cases ho
      have p16 : ls 16 = true := hpre { on := 16, ground := Ground.data } (by simp) rfl
      have p18 : ls 18 = true := hpre { on := 18, ground := Ground.data } (by simp) rfl
      have e21 : a0_.tmps[21]?.getD undef = .slice A l.length c := (DR.eval_get a0_ _).trans ((hS.on 16 21 rfl p16).trans (hJ.val 16 _ X16 p16))
      have e23 : a0_.tmps[23]?.getD undef = .slice A' l'.length c' := (DR.eval_get a0_ _).trans ((hS.on 18 23 rfl p18).trans (hJ.val 18 _ X18 p18))
      have E21 := (DR.eval_get a0_ 21).symm.trans e21
      have E23 := (DR.eval_get a0_ 23).symm.trans e23
      refine DR.wpOp_call rfl rfl Tryd.func45 (by kernel_rfl) rfl #[.slice A l.length c, .slice A' l'.length c', .func (.func 25) #[] #[]] rfl (by simp only [List.map_toArray, List.map_cons, List.map_nil, E21, E23]; try rfl) ?_
      refine (cmfC l l' IH.out A c A' c' w13 (Kd.C_below HR.out (below_step HB.out hJ.below)) HC.out (Kd.C_below HR'.out (below_step HB.out hJ.below)) HC'.out).mono ?_
      rintro e wc ⟨rfl, hb⟩
      exact ⟨_, rfl, _, rfl, hJ.value hBm X19 hb⟩
    · cases ho
      have p4 : ls 4 = true := hpre { on := 4, ground := Ground.data } (by simp) rfl
      have e9 : a0_.tmps[9]?.getD undef = .int .i64 (Lib.compareInt a a') := (DR.eval_get a0_ _).trans ((hS.on 4 9 rfl p4).trans (hJ.val 4 _ X4 p4))
      have p9 : ls 9 = true := hpre { on := 9, ground := Ground.data } (by simp) rfl
      have e14 : a0_.tmps[14]?.getD undef = .int .i64 (Lib.compareInt b b') := (DR.eval_get a0_ _).trans ((hS.on 9 14 rfl p9).trans (hJ.val 9 _ X9 p9))
      have p14 : ls 14 = true := hpre { on := 14, ground := Ground.data } (by simp) rfl
      have e19 : a0_.tmps[19]?.getD undef = .int .i64 (Lib.compareBytes s.data.toList s'.data.toList) := (DR.eval_get a0_ _).trans ((hS.on 14 19 rfl p14).trans (hJ.val 14 _ X14 p14))
      have p19 : ls 19 = true := hpre { on := 19, ground := Ground.data } (by simp) rfl
      have e24 : a0_.tmps[24]?.getD undef = .int .i64 (cmpL l l') := (DR.eval_get a0_ _).trans ((hS.on 19 24 rfl p19).trans (hJ.val 19 _ X19 p19))
      refine DR.wpOp_run (v := .slice (some ⟨w13.heap.size, 0, none⟩) 4 4) (w' := w13.alloc (.cells #[.int .i64 (Lib.compareInt a a'), .int .i64 (Lib.compareInt b b'), .int .i64 (Lib.compareBytes s.data.toList s'.data.toList), .int .i64 (cmpL l l')] 3 (0, 0))) rfl rfl ?_ ⟨_, rfl, hJ.other hBm X20 ?_ (below_alloc (Below.refl _ _) _)⟩
      rotate_left
      · subst hBF
        exact fun _ => ⟨_, rfl, blk_new _ _⟩
      clear hS hJ hpre hBm XN hBF
      first | (go_simp; done) | (go_simp; rfl)
    · cases ho
      have p20 : ls 20 = true := hpre { on := 20, ground := Ground.data } (by simp) rfl
      obtain ⟨g, hv, hblk⟩ : ∃ g, vals 20 = .slice (some ⟨g, 0, none⟩) 4 4 ∧ w13.heap[g]? = some (.cells #[.int .i64 (Lib.compareInt a a'), .int .i64 (Lib.compareInt b b'), .int .i64 (Lib.compareBytes s.data.toList s'.data.toList), .int .i64 (cmpL l l')] 3 (0, 0)) := by have h := hJ.oth 20 X20 p20; subst hBF; exact h rfl
      have E25 : a0_.eval (.tmp 25) = .slice (some ⟨g, 0, none⟩) 4 4 := (hS.on 20 25 rfl p20).trans hv
      refine DR.wpOp_call rfl rfl Tryd.func41 (by kernel_rfl) rfl #[.slice (some ⟨g, 0, none⟩) 4 4] rfl (by simp only [List.map_toArray, List.map_cons, List.map_nil, E25]) ?_
      refine (cmp_Or_int.calls 10 (some ⟨g, 0, none⟩) 4 [(Lib.compareInt a a'), (Lib.compareInt b b'), (Lib.compareBytes s.data.toList s'.data.toList), (cmpL l l')] R w13 (C_four _ _ _ _ _ _ hblk) (Nat.le_refl _) ((or4 _ _ _ _).trans (by rw [HRR.out]; rfl))).mono ?_
      rintro e wc ⟨rfl, ⟨nd, rfl⟩⟩
      exact ⟨_, rfl, _, rfl, hJ.value hBm X21 (pw_below_drewN (Below.refl _ _) nd)⟩
    · cases ho
      have p21 : ls 21 = true := hpre { on := 21, ground := Ground.data } (by simp) rfl
      have e26 : a0_.tmps[26]?.getD undef = .int .i64 R := (DR.eval_get a0_ _).trans ((hS.on 21 26 rfl p21).trans (hJ.val 21 _ X21 p21))
      refine DR.wpOp_run (v := .int .i64 R) (w' := w13) rfl rfl ?_ ⟨_, rfl, hJ.value hBm X22 (Below.refl _ _)⟩
      clear hS hJ hpre hBm XN
      go_simp
theorem cmpAll : ∀ (n : Nat) (x y : S32), SizeOf.sizeOf x ≤ n → OkCmp x.f0 x.f1 x.f2 x.f3 y.f0 y.f1 y.f2 y.f3
  | 0, x, y, h => absurd h (by cases x; simp only [S32.mk.sizeOf_spec]; omega)
  | n + 1, ⟨a, b, s, l⟩, ⟨a', b', s', l'⟩, h => cmpC a b s l a' b' s' l' (fun x hx y _ => cmpAll n x y (by have := size_mem hx a b s; omega))
/-! ### codec_Compare: function 25, given by this seat -/
def codec_Compare.f (a0_0 : Int) (a0_1 : Int) (a0_2 : ByteArray) (l0_3 : List (S32)) (a1_0 : Int) (a1_1 : Int) (a1_2 : ByteArray) (l1_3 : List (S32)) : Option Int := some (cmpV a0_0 a0_1 a0_2 l0_3 a1_0 a1_1 a1_2 l1_3)
theorem codec_Compare.calls (a0_0 : Int) (a0_1 : Int) (a0_2 : ByteArray) (A0_3 : Option Addr) (c0_3 : Nat) (l0_3 : List (S32)) (a1_0 : Int) (a1_1 : Int) (a1_2 : ByteArray) (A1_3 : Option Addr) (c1_3 : Nat) (l1_3 : List (S32)) (r : Int) (w : World) (hr0_3 : Kd.C k32 w A0_3 l0_3.length l0_3) (hc0_3 : l0_3.length ≤ c0_3) (hr1_3 : Kd.C k32 w A1_3 l1_3.length l1_3) (hc1_3 : l1_3.length ≤ c1_3) (h : codec_Compare.f a0_0 a0_1 a0_2 l0_3 a1_0 a1_1 a1_2 l1_3 = some r) :
    Calls Tryd.prog 25 #[.agg #[.int .i64 a0_0, .int .i64 a0_1, .string a0_2, .slice A0_3 l0_3.length c0_3], .agg #[.int .i64 a1_0, .int .i64 a1_1, .string a1_2, .slice A1_3 l1_3.length c1_3]] w fun e w' => e = .returned (.int .i64 r) ∧ Below w.heap.size w w' := by
  unfold codec_Compare.f at h
  cases h
  exact cmpAll _ ⟨a0_0, a0_1, a0_2, l0_3⟩ ⟨a1_0, a1_1, a1_2, l1_3⟩ (Nat.le_refl _) A0_3 c0_3 A1_3 c1_3 w hr0_3 hc0_3 hr1_3 hc1_3
end Go.Proofs.YtcmphojichgfeaaDoor.QC
