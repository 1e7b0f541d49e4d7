/- The codec seat: write, walked by hand. -/
import Derived.Test.YtcmphojichgfeaaDoorCH3a
namespace Go.Proofs.YtcmphojichgfeaaDoor.QC
open Go.RowKit Go.Proofs.YtcmphojichgfeaaDoorW.PrintWords Go.Proofs.YtcmphojichgfeaaDoorW.PrintLast Go.Proofs.YtcmphojichgfeaaDoorW.PrintMore
set_option linter.unusedVariables false
set_option linter.unusedSimpArgs false
attribute [local go_sem] max2_int min2_int max_two min_two
theorem u64_range (n : Int) : 0 ≤ IntKind.u64.wrap n ∧ IntKind.u64.wrap n ≤ 18446744073709551615 := by
  simp only [IntKind.wrap, IntKind.signed, IntKind.bits, Bool.false_and, Bool.false_eq_true, if_false]
  omega
theorem zig_range (n : Int) : 0 ≤ zigI n ∧ zigI n ≤ 18446744073709551615 := by
  unfold zigI Go.bits
  exact u64_range _
theorem zigC (b : Int) (w : World) : Calls Tryd.prog 51 #[.int .i64 b] w fun e w' => e = .returned (.int .u64 (zig b)) ∧ Below w.heap.size w w' := by
  refine (codec_zigzag.calls b _ w rfl).mono ?_
  rintro e w' ⟨rfl, ⟨nd, rfl⟩⟩
  refine ⟨?_, pw_below_drewN (Below.refl _ _) nd⟩
  have := zig_range b
  rw [show ((zig b : Nat) : Int) = zigI b by unfold zig; omega]
  rfl
abbrev OkW (a b : Int) (s : ByteArray) (l : List S32) : Prop := ∀ (A : Option Addr) (c : Nat) (u : Value) (l0 : List Int) (w0 w : World), Below w0.heap.size w0 w → Kd.R (Kd.int .u8) 5 w w0.heap.size (fun _ => True) u l0 → Kd.C k32 w0 A l.length l → l.length ≤ c → (l0 ++ enc a b s l).length ≤ 1000000000 →
  Calls Tryd.prog 32 #[u, .agg #[.int .i64 a, .int .i64 b, .string s, .slice A l.length c]] w fun e w' => ∃ v0 : Value, e = .returned v0 ∧ Kd.R (Kd.int .u8) 5 w' w0.heap.size (fun _ => True) v0 (l0 ++ enc a b s l) ∧ Below w0.heap.size w0 w' ∧ KeptT w w'
theorem belL {w0 W W' W2 : World} [i : Lift W W'] (h : Below w0.heap.size w0 W) (hb : Below W'.heap.size W' W2) : Below w0.heap.size w0 W2 := below_then (below_then h (below_size h) i.h) (Nat.le_trans (below_size h) i.h.size) hb
theorem kepL {w W W' W2 : World} [i : Lift W W'] (h : KeptT w W) (hb : Below W'.heap.size W' W2) : KeptT w W2 := (h.trans (KeptT.of_below i.h)).trans (KeptT.of_below hb)
theorem cnt_len : ∀ (k n : Nat), n < 2 ^ (7 * k) → 0 < k → (cnt n).length ≤ k
  | 0, _, _, h => absurd h (by omega)
  | k + 1, n, hn, _ => by
    rw [cnt]
    split
    · simp
    · rename_i h
      have hk : 0 < k := by
        apply Nat.pos_of_ne_zero
        rintro rfl
        simp at hn
        omega
      have hn2 : n / 128 < 2 ^ (7 * k) := by
        rw [show 7 * (k + 1) = 7 * k + 7 by omega, Nat.pow_add] at hn
        exact Nat.div_lt_of_lt_mul (by rw [Nat.mul_comm]; exact hn)
      have := cnt_len k (n / 128) hn2 hk
      simp only [List.length_cons]
      omega
set_option maxHeartbeats 8000000 in
theorem wriN (b : Int) (s : ByteArray) (l : List S32) : OkW 1 b s l := by
  intro A c u l0 w0 w hB hR hr hc hl
  have HB := Aside0.mk hB
  have HR := Aside0.mk hR
  have HT := Aside0.mk (KeptT.refl w)
  have HX := Aside0.mk hr
  have HC := Aside0.mk hc
  have HL := Aside0.mk hl
  clear hB hR hr hc hl
  have HN := Aside0.mk (show zig b ≤ 18446744073709551615 by have := zig_range b; unfold zig; omega)
  have HE := Aside0.mk (show l0 ++ enc 1 b s l = l0 ++ [110] ++ cnt (zig b) by simp [enc, encV])
  rw [HE.out]
  go_enter Tryd.func32, Tryd.ntmps32
  go_wp2_with (first | ((with_reducible refine gate_dst (N := 3) rfl ?_); refine box_event ?hg (N := 3) ?hd (cs := #[.int .i64 1, .int .i64 b, .string s, .slice A l.length c]) (t := 32) ?hr ?_; (case hd => rfl); (case hg => rfl); (case hr => first | (go_simp; done) | (go_simp; rfl)); intro g3 hg w3 hbox hb; have nB_ := Aside0.mk (belL HB.out hb); have nR_ := Aside0.mk (rbL HR.out hb); have nT_ := Aside0.mk (kepL HT.out hb); clear HB HR HT ; have HB := nB_; have HR := nR_; have HT := nT_; clear nB_ nR_ nT_ ; have B_g3 := Aside0.mk hbox; clear hb hbox hg; have hc_g3_0 : w3.cell? ⟨g3, 0, none⟩ = some (.int .i64 1) := (blk_cell B_g3.out 0).trans rfl; have hf_g3_0 := blk_frozen B_g3.out 0; have hc_g3_1 : w3.cell? ⟨g3, 1, none⟩ = some (.int .i64 b) := (blk_cell B_g3.out 1).trans rfl; have hf_g3_1 := blk_frozen B_g3.out 1; have hc_g3_2 : w3.cell? ⟨g3, 2, none⟩ = some (.string s) := (blk_cell B_g3.out 2).trans rfl; have hf_g3_2 := blk_frozen B_g3.out 2; have hc_g3_3 : w3.cell? ⟨g3, 3, none⟩ = some (.slice A l.length c) := (blk_cell B_g3.out 3).trans rfl; have hf_g3_3 := blk_frozen B_g3.out 3))
  obtain ⟨XF, hXF⟩ : ∃ XF : Nat → Option Value, XF = fun k => (([some (u), none, none, some (.pointer (some ⟨g3, 1, none⟩)), some (.int .i64 b), some (.int .u64 (zig b : Nat)), none, none] : List (Option Value))[k]?).join := ⟨_, rfl⟩
  have X0 : XF 0 = some (u) := by rw [hXF]; rfl
  have X1 : XF 1 = none := by rw [hXF]; rfl
  have X2 : XF 2 = none := by rw [hXF]; rfl
  have X3 : XF 3 = some (.pointer (some ⟨g3, 1, none⟩)) := by rw [hXF]; rfl
  have X4 : XF 4 = some (.int .i64 b) := by rw [hXF]; rfl
  have X5 : XF 5 = some (.int .u64 (zig b : Nat)) := by rw [hXF]; rfl
  have X6 : XF 6 = none := by rw [hXF]; rfl
  have X7 : XF 7 = none := by rw [hXF]; rfl
  clear hXF
  obtain ⟨cv, hcv⟩ : ∃ cv : (Nat → Bool) → (Nat → Value) → Value, cv = fun ls vals => if ls 7 = true then vals 7 else if ls 6 = true then vals 6 else if ls 2 = true then vals 2 else u := ⟨_, rfl⟩
  obtain ⟨cl, hcl⟩ : ∃ cl : (Nat → Bool) → List Int, cl = fun ls => if ls 7 = true then l0 ++ [110] ++ cnt (zig b) else if ls 6 = true then l0 ++ [110] ++ cnt (zig b) else if ls 2 = true then l0 ++ [110] else l0 := ⟨_, rfl⟩
  refine wp_region_noPanic ?_
  refine DR.wp_region_inv [some 11, some 12, some 13, some 14, some 15, some 16, some 17, some 4] (JO XF [(6, 2), (7, 6)] 1 2 (.int .u8 110) cv cl w0 w3) (by kernel_rfl) (by kernel_rfl) (by kernel_rfl) (by kernel_rfl) (fun vals => ⟨below_drew1 HB.out, KeptT.of_below (below_drew (Below.refl _ _)), fun _ _ _ h => (by cases h), fun h => (by cases h), by subst hcv hcl; exact Kd.R_drew HR.out, fun _ _ _ h => (by cases h)⟩) ?step ?fin
  case step =>
    intro j o ls vals a0_ w13 ho hj hpre hS hJ
    have hsz13 := below_size hJ.below
    have hjlt : j < 8 := (Array.getElem?_eq_some_iff.1 ho).1
    obtain rfl | rfl | rfl | rfl | rfl | rfl | rfl | rfl : j = 0 ∨ j = 1 ∨ j = 2 ∨ j = 3 ∨ j = 4 ∨ j = 5 ∨ j = 6 ∨ j = 7 := by omega
    · cases ho
      have e0 : a0_.tmps[0]?.getD undef = u := (DR.eval_get a0_ _).trans (hS.out' rfl rfl)
      refine DR.wpOp_run (v := u) (w' := w13) rfl rfl ?_ ⟨_, rfl, hJ.value X0 (by simp) (by decide) (by subst hcv; simp [DR.upd, show ¬ (2 = 0) by decide, show ¬ (6 = 0) by decide, show ¬ (7 = 0) by decide]) (by subst hcl; simp [DR.upd, show ¬ (2 = 0) by decide, show ¬ (6 = 0) by decide, show ¬ (7 = 0) by decide]) (Below.refl _ _) hsz13⟩
      clear hS hJ hpre
      go_simp
    · cases ho
      refine DR.wpOp_run (v := .slice (some ⟨w13.heap.size, 0, none⟩) 1 1) (w' := w13.alloc (.cells #[.int .u8 110] 5 (0, 0))) rfl rfl ?_ ⟨_, rfl, hJ.step (by simp) (below_then hJ.below hsz13 (below_alloc (Below.refl _ _) _)) (KeptT.of_below (below_alloc (Below.refl _ _) _)) (fun u hu => by rw [X1] at hu; cases hu) (.inl ⟨rfl, _, rfl, blk_new _ _⟩) ?_⟩
      · clear hS hJ hpre
        first | (go_simp; done) | (go_simp; rfl)
      · have h := Kd.R_alloc (o := .cells #[.int .u8 110] 5 (0, 0)) hJ.own
        rw [show cv (DR.upd ls 1 true) (DR.upd vals 1 (.slice (some ⟨w13.heap.size, 0, none⟩) 1 1)) = cv ls vals by subst hcv; simp [DR.upd, show ¬ (2 = 1) by decide, show ¬ (6 = 1) by decide, show ¬ (7 = 1) by decide], show cl (DR.upd ls 1 true) = cl ls by subst hcl; simp [DR.upd, show ¬ (2 = 1) by decide, show ¬ (6 = 1) by decide, show ¬ (7 = 1) by decide]]
        exact h
    · cases ho
      have p0 : ls 0 = true := hpre { on := 0, ground := Ground.data } (by simp) rfl
      have p1 : ls 1 = true := hpre { on := 1, ground := Ground.data } (by simp) rfl
      have e11 : a0_.tmps[11]?.getD undef = u := (DR.eval_get a0_ _).trans ((hS.on 0 11 rfl p0).trans (hJ.val 0 _ X0 p0))
      have L6 : ls 6 = false := by cases h : ls 6 with | false => rfl | true => (have h2 := hJ.dc 6 2 (by simp) h; rw [hj] at h2; cases h2)
      have L7 : ls 7 = false := by cases h : ls 7 with | false => rfl | true => (have h2 := hJ.dc 7 6 (by simp) h; rw [L6] at h2; cases h2)
      obtain ⟨g, hv, hblk⟩ := hJ.box p1 hj
      have hR0 : Kd.R (Kd.int .u8) 5 w13 w0.heap.size (fun _ => True) u l0 := by subst hcv hcl; have h := hJ.own; simp only [hj, L6, L7] at h; exact h
      have E11 := (DR.eval_get a0_ 11).symm.trans e11
      have E12 : a0_.eval (.tmp 12) = .slice (some ⟨g, 0, none⟩) 1 1 := (hS.on 1 12 rfl p1).trans hv
      refine append1_step rfl rfl (.tmp 11) (.tmp 12) 56 rfl Tryd.underlying56 info5 u l0 110 g E11 E12 hR0 hblk hJ.below (by have := HL.out; simp at this; omega) (fun v1 w1 h1 h2 h3 => ⟨_, rfl, hJ.step (by simp) h2 h3 (fun u hu => by rw [X2] at hu; cases hu) (.inr ⟨by decide, .inl rfl⟩) ?_⟩)
      subst hcv hcl
      simp only [DR.upd, L6, L7, show ¬ (6 = 2) by decide, show ¬ (7 = 2) by decide, if_true, if_false]
      simpa using h1
    · cases ho
      have e3 : a0_.tmps[3]?.getD undef = .pointer (some ⟨g3, 0, none⟩) := (DR.eval_get a0_ _).trans (hS.out' rfl rfl)
      refine DR.wpOp_run (v := .pointer (some ⟨g3, 1, none⟩)) (w' := w13) rfl rfl ?_ ⟨_, rfl, hJ.value X3 (by simp) (by decide) (by subst hcv; simp [DR.upd, show ¬ (2 = 3) by decide, show ¬ (6 = 3) by decide, show ¬ (7 = 3) by decide]) (by subst hcl; simp [DR.upd, show ¬ (2 = 3) by decide, show ¬ (6 = 3) by decide, show ¬ (7 = 3) by decide]) (Below.refl _ _) hsz13⟩
      clear hS hJ hpre
      go_simp
    · cases ho
      have p3 : ls 3 = true := hpre { on := 3, ground := Ground.data } (by simp) rfl
      have e14 : a0_.tmps[14]?.getD undef = .pointer (some ⟨g3, 1, none⟩) := (DR.eval_get a0_ _).trans ((hS.on 3 14 rfl p3).trans (hJ.val 3 _ X3 p3))
      have hc : w13.cell? ⟨g3, 1, none⟩ = some (.int .i64 b) := (blk_cell (hJ.kept.2 _ _ _ B_g3.out (by decide)) 1).trans rfl
      refine DR.wpOp_run (v := .int .i64 b) (w' := w13) rfl rfl ?_ ⟨_, rfl, hJ.value X4 (by simp) (by decide) (by subst hcv; simp [DR.upd, show ¬ (2 = 4) by decide, show ¬ (6 = 4) by decide, show ¬ (7 = 4) by decide]) (by subst hcl; simp [DR.upd, show ¬ (2 = 4) by decide, show ¬ (6 = 4) by decide, show ¬ (7 = 4) by decide]) (Below.refl _ _) hsz13⟩
      clear hS hJ hpre
      go_simp
    · cases ho
      have p4 : ls 4 = true := hpre { on := 4, ground := Ground.data } (by simp) rfl
      have e15 : a0_.tmps[15]?.getD undef = .int .i64 b := (DR.eval_get a0_ _).trans ((hS.on 4 15 rfl p4).trans (hJ.val 4 _ X4 p4))
      have E15 := (DR.eval_get a0_ 15).symm.trans e15
      refine DR.wpOp_call rfl rfl Tryd.func51 (by kernel_rfl) rfl #[.int .i64 b] rfl (by simp only [List.map_toArray, List.map_cons, List.map_nil, E15]) ?_
      refine (zigC b w13).mono ?_
      rintro e wc ⟨rfl, hb⟩
      exact ⟨_, rfl, _, rfl, hJ.value X5 (by simp) (by decide) (by subst hcv; simp [DR.upd, show ¬ (2 = 5) by decide, show ¬ (6 = 5) by decide, show ¬ (7 = 5) by decide]) (by subst hcl; simp [DR.upd, show ¬ (2 = 5) by decide, show ¬ (6 = 5) by decide, show ¬ (7 = 5) by decide]) hb hsz13⟩
    · cases ho
      have p2 : ls 2 = true := hpre { on := 2, ground := Ground.data } (by simp) rfl
      have p5 : ls 5 = true := hpre { on := 5, ground := Ground.data } (by simp) rfl
      have e16 : a0_.tmps[16]?.getD undef = .int .u64 (zig b : Nat) := (DR.eval_get a0_ _).trans ((hS.on 5 16 rfl p5).trans (hJ.val 5 _ X5 p5))
      have E16 := (DR.eval_get a0_ 16).symm.trans e16
      have L7 : ls 7 = false := by cases h : ls 7 with | false => rfl | true => (have h2 := hJ.dc 7 6 (by simp) h; rw [hj] at h2; cases h2)
      have hR0 : Kd.R (Kd.int .u8) 5 w13 w0.heap.size (fun _ => True) (vals 2) (l0 ++ [110]) := by subst hcv hcl; have h := hJ.own; simp only [hj, p2, L7, if_true, if_false, Bool.false_eq_true] at h; exact h
      have E13 : a0_.eval (.tmp 13) = vals 2 := hS.on 2 13 rfl p2
      refine DR.wpOp_call rfl rfl Tryd.func50 (by kernel_rfl) rfl #[vals 2, .int .u64 (zig b : Nat)] rfl (by simp only [List.map_toArray, List.map_cons, List.map_nil, E13, E16]) ?_
      refine (cntC (zig b) HN.out _ _ w0 w13 hJ.below hR0 (by have := HL.out; simp at this; simp; omega)).mono ?_
      rintro e wc ⟨v0, rfl, h1, h2, h3⟩
      refine ⟨_, rfl, _, rfl, hJ.step (by simp [p2]) h2 h3 (fun u hu => by rw [X6] at hu; cases hu) (.inr ⟨by decide, .inr (.inl (by first | exact p2 | exact hJ.dc 2 2 (by simp) p2))⟩) ?_⟩
      subst hcv hcl
      simp only [DR.upd, L7, show ¬ (7 = 6) by decide, if_true, if_false]
      simpa using h1
    · cases ho
      have p6 : ls 6 = true := hpre { on := 6, ground := Ground.data } (by simp) rfl
      have hR0 : Kd.R (Kd.int .u8) 5 w13 w0.heap.size (fun _ => True) (vals 6) (l0 ++ [110] ++ cnt (zig b)) := by subst hcv hcl; have h := hJ.own; simp only [hj, p6, if_true, if_false, Bool.false_eq_true] at h; exact h
      have e17 : a0_.tmps[17]?.getD undef = vals 6 := (DR.eval_get a0_ _).trans (hS.on 6 17 rfl p6)
      refine DR.wpOp_run (v := vals 6) (w' := w13) rfl rfl ?_ ⟨_, rfl, hJ.step (by simp [p6]) hJ.below (KeptT.refl _) (fun u hu => by rw [X7] at hu; cases hu) (.inr ⟨by decide, .inr (.inr (Below.refl _ _))⟩) ?_⟩
      · clear hS hJ hpre hR0
        go_simp
      · subst hcv hcl
        simp only [DR.upd, if_true]
        exact hR0
  case fin =>
    intro vals w13 hJ
    have v0 := hJ.val 0 _ X0 rfl
    have v3 := hJ.val 3 _ X3 rfl
    have v4 := hJ.val 4 _ X4 rfl
    have v5 := hJ.val 5 _ X5 rfl
    have HJ := Aside0.mk hJ.below
    have HT2 := Aside0.mk hJ.kept
    have hown := hJ.own
    have hown : Kd.R (Kd.int .u8) 5 w13 w0.heap.size (fun _ => True) (vals 7) (l0 ++ [110] ++ cnt (zig b)) := by have h := hJ.own; subst hcv hcl; exact h
    obtain ⟨v1, hv1⟩ : ∃ v, v = vals 1 := ⟨_, rfl⟩
    obtain ⟨v2, hv2⟩ : ∃ v, v = vals 2 := ⟨_, rfl⟩
    obtain ⟨v6, hv6⟩ : ∃ v, v = vals 6 := ⟨_, rfl⟩
    obtain ⟨v7, hv7⟩ : ∃ v, v = vals 7 := ⟨_, rfl⟩
    rw [← hv7] at hown
    have HO := Aside0.mk hown
    clear hown hJ hcv hcl X0 X1 X2 X3 X4 X5 X6 X7
    refine NoPanic.normal ?_
    simp only [DR.putAll, v0, v3, v4, v5, ← hv1, ← hv2, ← hv6, ← hv7]
    simp only [Act.put, List.setIfInBounds_toArray, List.set_cons_zero, List.set_cons_succ]
    clear v0 v3 v4 v5 hv1 hv2 hv6 hv7
    go_wp2
    go_ret
    exact ⟨_, rfl, HO.out, HJ.out, HT.out.trans HT2.out⟩
theorem ints_len (s : ByteArray) : (ints s).length = s.size := by simp [ints]
set_option maxHeartbeats 8000000 in
theorem wriT (b : Int) (s : ByteArray) (l : List S32) : OkW 2 b s l := by
  intro A c u l0 w0 w hB hR hr hc hl
  have HB := Aside0.mk hB
  have HR := Aside0.mk hR
  have HT := Aside0.mk (KeptT.refl w)
  have HX := Aside0.mk hr
  have HC := Aside0.mk hc
  have HL := Aside0.mk hl
  clear hB hR hr hc hl
  have HE := Aside0.mk (show l0 ++ enc 2 b s l = l0 ++ [116] ++ cnt s.size ++ ints s by simp [enc, encV])
  rw [HE.out]
  have HL2 := Aside0.mk (show (l0 ++ [116] ++ cnt s.size ++ ints s).length ≤ 1000000000 by rw [← HE.out]; exact HL.out)
  have HN := Aside0.mk (show s.size ≤ 18446744073709551615 by have := HL2.out; simp [ints_len] at this; omega)
  go_enter Tryd.func32, Tryd.ntmps32
  go_wp2_with (first | ((with_reducible refine gate_dst (N := 3) rfl ?_); refine box_event ?hg (N := 3) ?hd (cs := #[.int .i64 2, .int .i64 b, .string s, .slice A l.length c]) (t := 32) ?hr ?_; (case hd => rfl); (case hg => rfl); (case hr => first | (go_simp; done) | (go_simp; rfl)); intro g3 hg w3 hbox hb; have nB_ := Aside0.mk (belL HB.out hb); have nR_ := Aside0.mk (rbL HR.out hb); have nT_ := Aside0.mk (kepL HT.out hb); clear HB HR HT ; have HB := nB_; have HR := nR_; have HT := nT_; clear nB_ nR_ nT_ ; have B_g3 := Aside0.mk hbox; clear hb hbox hg; have hc_g3_0 : w3.cell? ⟨g3, 0, none⟩ = some (.int .i64 2) := (blk_cell B_g3.out 0).trans rfl; have hf_g3_0 := blk_frozen B_g3.out 0; have hc_g3_1 : w3.cell? ⟨g3, 1, none⟩ = some (.int .i64 b) := (blk_cell B_g3.out 1).trans rfl; have hf_g3_1 := blk_frozen B_g3.out 1; have hc_g3_2 : w3.cell? ⟨g3, 2, none⟩ = some (.string s) := (blk_cell B_g3.out 2).trans rfl; have hf_g3_2 := blk_frozen B_g3.out 2; have hc_g3_3 : w3.cell? ⟨g3, 3, none⟩ = some (.slice A l.length c) := (blk_cell B_g3.out 3).trans rfl; have hf_g3_3 := blk_frozen B_g3.out 3))
  obtain ⟨XF, hXF⟩ : ∃ XF : Nat → Option Value, XF = fun k => (([some (u), none, none, some (.pointer (some ⟨g3, 2, none⟩)), some (.string s), some (.int .i64 (s.size : Int)), some (.int .u64 (s.size : Int)), none, some (.pointer (some ⟨g3, 2, none⟩)), some (.string s), none, none] : List (Option Value))[k]?).join := ⟨_, rfl⟩
  have X0 : XF 0 = some (u) := by rw [hXF]; rfl
  have X1 : XF 1 = none := by rw [hXF]; rfl
  have X2 : XF 2 = none := by rw [hXF]; rfl
  have X3 : XF 3 = some (.pointer (some ⟨g3, 2, none⟩)) := by rw [hXF]; rfl
  have X4 : XF 4 = some (.string s) := by rw [hXF]; rfl
  have X5 : XF 5 = some (.int .i64 (s.size : Int)) := by rw [hXF]; rfl
  have X6 : XF 6 = some (.int .u64 (s.size : Int)) := by rw [hXF]; rfl
  have X7 : XF 7 = none := by rw [hXF]; rfl
  have X8 : XF 8 = some (.pointer (some ⟨g3, 2, none⟩)) := by rw [hXF]; rfl
  have X9 : XF 9 = some (.string s) := by rw [hXF]; rfl
  have X10 : XF 10 = none := by rw [hXF]; rfl
  have X11 : XF 11 = none := by rw [hXF]; rfl
  clear hXF
  obtain ⟨cv, hcv⟩ : ∃ cv : (Nat → Bool) → (Nat → Value) → Value, cv = fun ls vals => if ls 11 = true then vals 11 else if ls 10 = true then vals 10 else if ls 7 = true then vals 7 else if ls 2 = true then vals 2 else u := ⟨_, rfl⟩
  obtain ⟨cl, hcl⟩ : ∃ cl : (Nat → Bool) → List Int, cl = fun ls => if ls 11 = true then l0 ++ [116] ++ cnt s.size ++ ints s else if ls 10 = true then l0 ++ [116] ++ cnt s.size ++ ints s else if ls 7 = true then l0 ++ [116] ++ cnt s.size else if ls 2 = true then l0 ++ [116] else l0 := ⟨_, rfl⟩
  refine wp_region_noPanic ?_
  refine DR.wp_region_inv [some 20, some 21, some 22, some 23, some 24, some 25, some 26, some 27, some 28, some 29, some 30, some 4] (JO XF [(7, 2), (10, 7), (11, 10)] 1 2 (.int .u8 116) cv cl w0 w3) (by kernel_rfl) (by kernel_rfl) (by kernel_rfl) (by kernel_rfl) (fun vals => ⟨below_drew1 HB.out, KeptT.of_below (below_drew (Below.refl _ _)), fun _ _ _ h => (by cases h), fun h => (by cases h), by subst hcv hcl; exact Kd.R_drew HR.out, fun _ _ _ h => (by cases h)⟩) ?step ?fin
  case step =>
    intro j o ls vals a0_ w13 ho hj hpre hS hJ
    have hsz13 := below_size hJ.below
    have hjlt : j < 12 := (Array.getElem?_eq_some_iff.1 ho).1
    obtain rfl | rfl | rfl | rfl | rfl | rfl | rfl | rfl | rfl | rfl | rfl | rfl : j = 0 ∨ j = 1 ∨ j = 2 ∨ j = 3 ∨ j = 4 ∨ j = 5 ∨ j = 6 ∨ j = 7 ∨ j = 8 ∨ j = 9 ∨ j = 10 ∨ j = 11 := by omega
    · cases ho
      have e0 : a0_.tmps[0]?.getD undef = u := (DR.eval_get a0_ _).trans (hS.out' rfl rfl)
      refine DR.wpOp_run (v := u) (w' := w13) rfl rfl ?_ ⟨_, rfl, hJ.value X0 (by simp) (by decide) (by subst hcv; simp [DR.upd, show ¬ (2 = 0) by decide, show ¬ (7 = 0) by decide, show ¬ (10 = 0) by decide, show ¬ (11 = 0) by decide]) (by subst hcl; simp [DR.upd, show ¬ (2 = 0) by decide, show ¬ (7 = 0) by decide, show ¬ (10 = 0) by decide, show ¬ (11 = 0) by decide]) (Below.refl _ _) hsz13⟩
      clear hS hJ hpre
      go_simp
    · cases ho
      refine DR.wpOp_run (v := .slice (some ⟨w13.heap.size, 0, none⟩) 1 1) (w' := w13.alloc (.cells #[.int .u8 116] 5 (0, 0))) rfl rfl ?_ ⟨_, rfl, hJ.step (by simp) (below_then hJ.below hsz13 (below_alloc (Below.refl _ _) _)) (KeptT.of_below (below_alloc (Below.refl _ _) _)) (fun u hu => by rw [X1] at hu; cases hu) (.inl ⟨rfl, _, rfl, blk_new _ _⟩) ?_⟩
      · clear hS hJ hpre
        first | (go_simp; done) | (go_simp; rfl)
      · have h := Kd.R_alloc (o := .cells #[.int .u8 116] 5 (0, 0)) hJ.own
        rw [show cv (DR.upd ls 1 true) (DR.upd vals 1 (.slice (some ⟨w13.heap.size, 0, none⟩) 1 1)) = cv ls vals by subst hcv; simp [DR.upd, show ¬ (2 = 1) by decide, show ¬ (7 = 1) by decide, show ¬ (10 = 1) by decide, show ¬ (11 = 1) by decide], show cl (DR.upd ls 1 true) = cl ls by subst hcl; simp [DR.upd, show ¬ (2 = 1) by decide, show ¬ (7 = 1) by decide, show ¬ (10 = 1) by decide, show ¬ (11 = 1) by decide]]
        exact h
    · cases ho
      have p0 : ls 0 = true := hpre { on := 0, ground := Ground.data } (by simp) rfl
      have p1 : ls 1 = true := hpre { on := 1, ground := Ground.data } (by simp) rfl
      have e20 : a0_.tmps[20]?.getD undef = u := (DR.eval_get a0_ _).trans ((hS.on 0 20 rfl p0).trans (hJ.val 0 _ X0 p0))
      have L7 : ls 7 = false := by cases h : ls 7 with | false => rfl | true => (have h2 := hJ.dc 7 2 (by simp) h; rw [hj] at h2; cases h2)
      have L10 : ls 10 = false := by cases h : ls 10 with | false => rfl | true => (have h2 := hJ.dc 10 7 (by simp) h; rw [L7] at h2; cases h2)
      have L11 : ls 11 = false := by cases h : ls 11 with | false => rfl | true => (have h2 := hJ.dc 11 10 (by simp) h; rw [L10] at h2; cases h2)
      obtain ⟨g, hv, hblk⟩ := hJ.box p1 hj
      have hR0 : Kd.R (Kd.int .u8) 5 w13 w0.heap.size (fun _ => True) u l0 := by subst hcv hcl; have h := hJ.own; simp only [hj, L7, L10, L11] at h; exact h
      have E20 := (DR.eval_get a0_ 20).symm.trans e20
      have E21 : a0_.eval (.tmp 21) = .slice (some ⟨g, 0, none⟩) 1 1 := (hS.on 1 21 rfl p1).trans hv
      refine append1_step rfl rfl (.tmp 20) (.tmp 21) 56 rfl Tryd.underlying56 info5 u l0 116 g E20 E21 hR0 hblk hJ.below (by have := HL.out; simp at this; omega) (fun v1 w1 h1 h2 h3 => ⟨_, rfl, hJ.step (by simp) h2 h3 (fun u hu => by rw [X2] at hu; cases hu) (.inr ⟨by decide, .inl rfl⟩) ?_⟩)
      subst hcv hcl
      simp only [DR.upd, L7, L10, L11, show ¬ (7 = 2) by decide, show ¬ (10 = 2) by decide, show ¬ (11 = 2) by decide, if_true, if_false]
      simpa using h1
    · cases ho
      have e3 : a0_.tmps[3]?.getD undef = .pointer (some ⟨g3, 0, none⟩) := (DR.eval_get a0_ _).trans (hS.out' rfl rfl)
      refine DR.wpOp_run (v := .pointer (some ⟨g3, 2, none⟩)) (w' := w13) rfl rfl ?_ ⟨_, rfl, hJ.value X3 (by simp) (by decide) (by subst hcv; simp [DR.upd, show ¬ (2 = 3) by decide, show ¬ (7 = 3) by decide, show ¬ (10 = 3) by decide, show ¬ (11 = 3) by decide]) (by subst hcl; simp [DR.upd, show ¬ (2 = 3) by decide, show ¬ (7 = 3) by decide, show ¬ (10 = 3) by decide, show ¬ (11 = 3) by decide]) (Below.refl _ _) hsz13⟩
      clear hS hJ hpre
      go_simp
    · cases ho
      have p3 : ls 3 = true := hpre { on := 3, ground := Ground.data } (by simp) rfl
      have e23 : a0_.tmps[23]?.getD undef = .pointer (some ⟨g3, 2, none⟩) := (DR.eval_get a0_ _).trans ((hS.on 3 23 rfl p3).trans (hJ.val 3 _ X3 p3))
      have hc : w13.cell? ⟨g3, 2, none⟩ = some (.string s) := (blk_cell (hJ.kept.2 _ _ _ B_g3.out (by decide)) 2).trans rfl
      refine DR.wpOp_run (v := .string s) (w' := w13) rfl rfl ?_ ⟨_, rfl, hJ.value X4 (by simp) (by decide) (by subst hcv; simp [DR.upd, show ¬ (2 = 4) by decide, show ¬ (7 = 4) by decide, show ¬ (10 = 4) by decide, show ¬ (11 = 4) by decide]) (by subst hcl; simp [DR.upd, show ¬ (2 = 4) by decide, show ¬ (7 = 4) by decide, show ¬ (10 = 4) by decide, show ¬ (11 = 4) by decide]) (Below.refl _ _) hsz13⟩
      clear hS hJ hpre
      go_simp
    · cases ho
      have p4 : ls 4 = true := hpre { on := 4, ground := Ground.data } (by simp) rfl
      have e24 : a0_.tmps[24]?.getD undef = .string s := (DR.eval_get a0_ _).trans ((hS.on 4 24 rfl p4).trans (hJ.val 4 _ X4 p4))
      refine DR.wpOp_run (v := .int .i64 (s.size : Int)) (w' := w13) rfl rfl ?_ ⟨_, rfl, hJ.value X5 (by simp) (by decide) (by subst hcv; simp [DR.upd, show ¬ (2 = 5) by decide, show ¬ (7 = 5) by decide, show ¬ (10 = 5) by decide, show ¬ (11 = 5) by decide]) (by subst hcl; simp [DR.upd, show ¬ (2 = 5) by decide, show ¬ (7 = 5) by decide, show ¬ (10 = 5) by decide, show ¬ (11 = 5) by decide]) (Below.refl _ _) hsz13⟩
      clear hS hJ hpre
      go_simp
    · cases ho
      have p5 : ls 5 = true := hpre { on := 5, ground := Ground.data } (by simp) rfl
      have e25 : a0_.tmps[25]?.getD undef = .int .i64 (s.size : Int) := (DR.eval_get a0_ _).trans ((hS.on 5 25 rfl p5).trans (hJ.val 5 _ X5 p5))
      have hwz : IntKind.u64.wrap (s.size : Int) = (s.size : Int) := wrap_u64 (by omega) (by have := HN.out; omega)
      refine DR.wpOp_run (v := .int .u64 (s.size : Int)) (w' := w13) rfl rfl ?_ ⟨_, rfl, hJ.value X6 (by simp) (by decide) (by subst hcv; simp [DR.upd, show ¬ (2 = 6) by decide, show ¬ (7 = 6) by decide, show ¬ (10 = 6) by decide, show ¬ (11 = 6) by decide]) (by subst hcl; simp [DR.upd, show ¬ (2 = 6) by decide, show ¬ (7 = 6) by decide, show ¬ (10 = 6) by decide, show ¬ (11 = 6) by decide]) (Below.refl _ _) hsz13⟩
      clear hS hJ hpre
      go_simp
    · cases ho
      have p2 : ls 2 = true := hpre { on := 2, ground := Ground.data } (by simp) rfl
      have p6 : ls 6 = true := hpre { on := 6, ground := Ground.data } (by simp) rfl
      have e26 : a0_.tmps[26]?.getD undef = .int .u64 (s.size : Int) := (DR.eval_get a0_ _).trans ((hS.on 6 26 rfl p6).trans (hJ.val 6 _ X6 p6))
      have E26 := (DR.eval_get a0_ 26).symm.trans e26
      have L10 : ls 10 = false := by cases h : ls 10 with | false => rfl | true => (have h2 := hJ.dc 10 7 (by simp) h; rw [hj] at h2; cases h2)
      have L11 : ls 11 = false := by cases h : ls 11 with | false => rfl | true => (have h2 := hJ.dc 11 10 (by simp) h; rw [L10] at h2; cases h2)
      have hR0 : Kd.R (Kd.int .u8) 5 w13 w0.heap.size (fun _ => True) (vals 2) (l0 ++ [116]) := by subst hcv hcl; have h := hJ.own; simp only [hj, p2, L10, L11, if_true, if_false, Bool.false_eq_true] at h; exact h
      have E22 : a0_.eval (.tmp 22) = vals 2 := hS.on 2 22 rfl p2
      refine DR.wpOp_call rfl rfl Tryd.func50 (by kernel_rfl) rfl #[vals 2, .int .u64 (s.size : Nat)] rfl (by simp only [List.map_toArray, List.map_cons, List.map_nil, E22, E26]) ?_
      refine (cntC (s.size) HN.out _ _ w0 w13 hJ.below hR0 (by have := HL.out; simp at this; simp; omega)).mono ?_
      rintro e wc ⟨v0, rfl, h1, h2, h3⟩
      refine ⟨_, rfl, _, rfl, hJ.step (by simp [p2]) h2 h3 (fun u hu => by rw [X7] at hu; cases hu) (.inr ⟨by decide, .inr (.inl (by first | exact p2 | exact hJ.dc 2 2 (by simp) p2))⟩) ?_⟩
      subst hcv hcl
      simp only [DR.upd, L10, show ¬ (10 = 7) by decide, L11, show ¬ (11 = 7) by decide, if_true, if_false]
      simpa using h1
    · cases ho
      have e3 : a0_.tmps[3]?.getD undef = .pointer (some ⟨g3, 0, none⟩) := (DR.eval_get a0_ _).trans (hS.out' rfl rfl)
      refine DR.wpOp_run (v := .pointer (some ⟨g3, 2, none⟩)) (w' := w13) rfl rfl ?_ ⟨_, rfl, hJ.value X8 (by simp) (by decide) (by subst hcv; simp [DR.upd, show ¬ (2 = 8) by decide, show ¬ (7 = 8) by decide, show ¬ (10 = 8) by decide, show ¬ (11 = 8) by decide]) (by subst hcl; simp [DR.upd, show ¬ (2 = 8) by decide, show ¬ (7 = 8) by decide, show ¬ (10 = 8) by decide, show ¬ (11 = 8) by decide]) (Below.refl _ _) hsz13⟩
      clear hS hJ hpre
      go_simp
    · cases ho
      have p8 : ls 8 = true := hpre { on := 8, ground := Ground.data } (by simp) rfl
      have e28 : a0_.tmps[28]?.getD undef = .pointer (some ⟨g3, 2, none⟩) := (DR.eval_get a0_ _).trans ((hS.on 8 28 rfl p8).trans (hJ.val 8 _ X8 p8))
      have hc : w13.cell? ⟨g3, 2, none⟩ = some (.string s) := (blk_cell (hJ.kept.2 _ _ _ B_g3.out (by decide)) 2).trans rfl
      refine DR.wpOp_run (v := .string s) (w' := w13) rfl rfl ?_ ⟨_, rfl, hJ.value X9 (by simp) (by decide) (by subst hcv; simp [DR.upd, show ¬ (2 = 9) by decide, show ¬ (7 = 9) by decide, show ¬ (10 = 9) by decide, show ¬ (11 = 9) by decide]) (by subst hcl; simp [DR.upd, show ¬ (2 = 9) by decide, show ¬ (7 = 9) by decide, show ¬ (10 = 9) by decide, show ¬ (11 = 9) by decide]) (Below.refl _ _) hsz13⟩
      clear hS hJ hpre
      go_simp
    · cases ho
      have p7 : ls 7 = true := hpre { on := 7, ground := Ground.data } (by simp) rfl
      have p9 : ls 9 = true := hpre { on := 9, ground := Ground.data } (by simp) rfl
      have e29 : a0_.tmps[29]?.getD undef = .string s := (DR.eval_get a0_ _).trans ((hS.on 9 29 rfl p9).trans (hJ.val 9 _ X9 p9))
      have E29 := (DR.eval_get a0_ 29).symm.trans e29
      have L11 : ls 11 = false := by cases h : ls 11 with | false => rfl | true => (have h2 := hJ.dc 11 10 (by simp) h; rw [hj] at h2; cases h2)
      have hR0 : Kd.R (Kd.int .u8) 5 w13 w0.heap.size (fun _ => True) (vals 7) (l0 ++ [116] ++ cnt s.size) := by subst hcv hcl; have h := hJ.own; simp only [hj, p7, L11, if_true, if_false, Bool.false_eq_true] at h; exact h
      have E27 : a0_.eval (.tmp 27) = vals 7 := hS.on 7 27 rfl p7
      refine appendS_step rfl rfl (.tmp 27) (.tmp 29) 56 9 rfl Tryd.underlying56 Tryd.underlying9 info5 (vals 7) _ s E27 E29 hR0 hJ.below (by have := HL2.out; simp [ints_len] at this ⊢; omega) (fun v1 w1 h1 h2 h3 => ⟨_, rfl, hJ.step (by simp [p7]) h2 h3 (fun u hu => by rw [X10] at hu; cases hu) (.inr ⟨by decide, .inr (.inl (hJ.dc 7 2 (by simp) p7))⟩) ?_⟩)
      subst hcv hcl
      simp only [DR.upd, L11, show ¬ (11 = 10) by decide, if_true, if_false]
      simpa using h1
    · cases ho
      have p10 : ls 10 = true := hpre { on := 10, ground := Ground.data } (by simp) rfl
      have hR0 : Kd.R (Kd.int .u8) 5 w13 w0.heap.size (fun _ => True) (vals 10) (l0 ++ [116] ++ cnt s.size ++ ints s) := by subst hcv hcl; have h := hJ.own; simp only [hj, p10, if_true, if_false, Bool.false_eq_true] at h; exact h
      have e30 : a0_.tmps[30]?.getD undef = vals 10 := (DR.eval_get a0_ _).trans (hS.on 10 30 rfl p10)
      refine DR.wpOp_run (v := vals 10) (w' := w13) rfl rfl ?_ ⟨_, rfl, hJ.step (by simp [p10]) hJ.below (KeptT.refl _) (fun u hu => by rw [X11] at hu; cases hu) (.inr ⟨by decide, .inr (.inr (Below.refl _ _))⟩) ?_⟩
      · clear hS hJ hpre hR0
        go_simp
      · subst hcv hcl
        simp only [DR.upd, if_true]
        exact hR0
  case fin =>
    intro vals w13 hJ
    have v0 := hJ.val 0 _ X0 rfl
    have v3 := hJ.val 3 _ X3 rfl
    have v4 := hJ.val 4 _ X4 rfl
    have v5 := hJ.val 5 _ X5 rfl
    have v6 := hJ.val 6 _ X6 rfl
    have v8 := hJ.val 8 _ X8 rfl
    have v9 := hJ.val 9 _ X9 rfl
    have HJ := Aside0.mk hJ.below
    have HT2 := Aside0.mk hJ.kept
    have hown := hJ.own
    have hown : Kd.R (Kd.int .u8) 5 w13 w0.heap.size (fun _ => True) (vals 11) (l0 ++ [116] ++ cnt s.size ++ ints s) := by have h := hJ.own; subst hcv hcl; exact h
    obtain ⟨v1, hv1⟩ : ∃ v, v = vals 1 := ⟨_, rfl⟩
    obtain ⟨v2, hv2⟩ : ∃ v, v = vals 2 := ⟨_, rfl⟩
    obtain ⟨v7, hv7⟩ : ∃ v, v = vals 7 := ⟨_, rfl⟩
    obtain ⟨v10, hv10⟩ : ∃ v, v = vals 10 := ⟨_, rfl⟩
    obtain ⟨v11, hv11⟩ : ∃ v, v = vals 11 := ⟨_, rfl⟩
    rw [← hv11] at hown
    have HO := Aside0.mk hown
    clear hown hJ hcv hcl X0 X1 X2 X3 X4 X5 X6 X7 X8 X9 X10 X11
    refine NoPanic.normal ?_
    simp only [DR.putAll, v0, v3, v4, v5, v6, v8, v9, ← hv1, ← hv2, ← hv7, ← hv10, ← hv11]
    simp only [Act.put, List.setIfInBounds_toArray, List.set_cons_zero, List.set_cons_succ]
    clear v0 v3 v4 v5 v6 v8 v9 hv1 hv2 hv7 hv10 hv11
    go_wp2
    go_ret
    exact ⟨_, rfl, HO.out, HJ.out, HT.out.trans HT2.out⟩
theorem encL_take {l : List S32} {i : Nat} (h : i < l.length) : encL (l.take (i + 1)) = encL (l.take i) ++ encV l[i] := by
  induction l generalizing i with
  | nil => simp at h
  | cons x l ih =>
    cases i with
    | zero => simp [encL]
    | succ i =>
      simp only [List.take_succ_cons, encL, List.getElem_cons_succ]
      rw [ih (by simpa using h), List.append_assoc]
theorem encL_le (l : List S32) : ∀ i, (encL (l.take i)).length ≤ (encL l).length := by
  induction l with
  | nil => intro i; simp
  | cons x l ih =>
    intro i
    cases i with
    | zero => simp [encL]
    | succ i =>
      simp only [List.take_succ_cons, encL, List.length_append]
      have := ih i
      omega
theorem b4 {w0 w : World} {g : Nat} (h : Below w0.heap.size w0 w) (hn : w0.heap.size ≤ g) (u0 u1 u2 u3 : Value) :
    Below w0.heap.size w0 ((((w.setCell ⟨g, 0, none⟩ u0).setCell ⟨g, 1, none⟩ u1).setCell ⟨g, 2, none⟩ u2).setCell ⟨g, 3, none⟩ u3) := st4_B h hn u0 u1 u2 u3
theorem R_set4 {w : World} {base g : Nat} {cs : Array Value} {v : Value} {l : List Int} (h : Kd.R (Kd.int .u8) 5 w base (fun _ => True) v l) (hb : w.heap[g]? = some (.cells cs 32 (0, 0))) (u0 u1 u2 u3 : Value) :
    Kd.R (Kd.int .u8) 5 ((((w.setCell ⟨g, 0, none⟩ u0).setCell ⟨g, 1, none⟩ u1).setCell ⟨g, 2, none⟩ u2).setCell ⟨g, 3, none⟩ u3) base (fun _ => True) v l := by
  have hn : some g ≠ v.ownBlock := Kd.R_ne h hb (by decide)
  have h1 : Kd.R (Kd.int .u8) 5 w base (fun k => k ≠ g) v l := Kd.R_mono (R_self h) (fun k hk e => hn (by rw [← e]; exact hk))
  exact Kd.R_mono (Kd.R_far (p := ⟨g, 3, none⟩) (Kd.R_far (p := ⟨g, 2, none⟩) (Kd.R_far (p := ⟨g, 1, none⟩) (Kd.R_far (p := ⟨g, 0, none⟩) h1 (fun _ hk => hk) u0) (fun _ hk => hk) u1) (fun _ hk => hk) u2) (fun _ hk => hk) u3) (fun _ _ => trivial)
theorem kept4 {w W : World} {g : Nat} (h : KeptT w W) (hn : w.heap.size ≤ g) (u0 u1 u2 u3 : Value) :
    KeptT w ((((W.setCell ⟨g, 0, none⟩ u0).setCell ⟨g, 1, none⟩ u1).setCell ⟨g, 2, none⟩ u2).setCell ⟨g, 3, none⟩ u3) :=
  ⟨by simpa using h.1, fun j cs t hj ht => st4_far (h.2 j cs t hj ht) (by have := blk_lt hj; omega) u0 u1 u2 u3⟩
set_option maxHeartbeats 8000000 in
theorem wriL (a b : Int) (s : ByteArray) (l : List S32) (ha1 : ¬ a = 1) (ha2 : ¬ a = 2) (ih : ∀ y ∈ l, OkW y.f0 y.f1 y.f2 y.f3) : OkW a b s l := by
  intro A c u l0 w0 w hB hR hr hc hl
  have HB := Aside0.mk hB
  have HR := Aside0.mk hR
  have HT := Aside0.mk (KeptT.refl w)
  have HX := Aside0.mk hr
  have HC := Aside0.mk hc
  have HL := Aside0.mk hl
  clear hB hR hr hc hl
  have IH := Aside0.mk ih
  clear ih
  have HE := Aside0.mk (show l0 ++ enc a b s l = l0 ++ [108] ++ cnt l.length ++ encL l by simp [enc, encV, ha1, ha2])
  have HL2 := Aside0.mk (show (l0 ++ [108] ++ cnt l.length ++ encL l).length ≤ 1000000000 by rw [← HE.out]; exact HL.out)
  rw [HE.out]
  have hmax := C_max HX.out
  have HN := Aside0.mk (show l.length ≤ 18446744073709551615 by omega)
  have hc1 : (a == 1) = false := beq_eq_false_iff_ne.mpr ha1
  have hc2 : (a == 2) = false := beq_eq_false_iff_ne.mpr ha2
  go_enter Tryd.func32, Tryd.ntmps32
  go_wp2_with (first | ((with_reducible refine gate_dst (N := 3) rfl ?_); refine box_event ?hg (N := 3) ?hd (cs := #[.int .i64 a, .int .i64 b, .string s, .slice A l.length c]) (t := 32) ?hr ?_; (case hd => rfl); (case hg => rfl); (case hr => first | (go_simp; done) | (go_simp; rfl)); intro g3 hg w3 hbox hb; have nB_ := Aside0.mk (belL HB.out hb); have nR_ := Aside0.mk (rbL HR.out hb); have nT_ := Aside0.mk (kepL HT.out hb); clear HB HR HT ; have HB := nB_; have HR := nR_; have HT := nT_; clear nB_ nR_ nT_ ; have B_g3 := Aside0.mk hbox; clear hb hbox hg; have hc_g3_0 : w3.cell? ⟨g3, 0, none⟩ = some (.int .i64 a) := (blk_cell B_g3.out 0).trans rfl; have hf_g3_0 := blk_frozen B_g3.out 0; have hc_g3_1 : w3.cell? ⟨g3, 1, none⟩ = some (.int .i64 b) := (blk_cell B_g3.out 1).trans rfl; have hf_g3_1 := blk_frozen B_g3.out 1; have hc_g3_2 : w3.cell? ⟨g3, 2, none⟩ = some (.string s) := (blk_cell B_g3.out 2).trans rfl; have hf_g3_2 := blk_frozen B_g3.out 2; have hc_g3_3 : w3.cell? ⟨g3, 3, none⟩ = some (.slice A l.length c) := (blk_cell B_g3.out 3).trans rfl; have hf_g3_3 := blk_frozen B_g3.out 3))
  obtain ⟨XF, hXF⟩ : ∃ XF : Nat → Option Value, XF = fun k => (([some (u), none, none, some (.pointer (some ⟨g3, 3, none⟩)), some (.slice A l.length c), some (.int .i64 (l.length : Int)), some (.int .u64 (l.length : Int)), none, none] : List (Option Value))[k]?).join := ⟨_, rfl⟩
  have X0 : XF 0 = some (u) := by rw [hXF]; rfl
  have X1 : XF 1 = none := by rw [hXF]; rfl
  have X2 : XF 2 = none := by rw [hXF]; rfl
  have X3 : XF 3 = some (.pointer (some ⟨g3, 3, none⟩)) := by rw [hXF]; rfl
  have X4 : XF 4 = some (.slice A l.length c) := by rw [hXF]; rfl
  have X5 : XF 5 = some (.int .i64 (l.length : Int)) := by rw [hXF]; rfl
  have X6 : XF 6 = some (.int .u64 (l.length : Int)) := by rw [hXF]; rfl
  have X7 : XF 7 = none := by rw [hXF]; rfl
  have X8 : XF 8 = none := by rw [hXF]; rfl
  clear hXF
  obtain ⟨cv, hcv⟩ : ∃ cv : (Nat → Bool) → (Nat → Value) → Value, cv = fun ls vals => if ls 8 = true then vals 8 else if ls 7 = true then vals 7 else if ls 2 = true then vals 2 else u := ⟨_, rfl⟩
  obtain ⟨cl, hcl⟩ : ∃ cl : (Nat → Bool) → List Int, cl = fun ls => if ls 8 = true then l0 ++ [108] ++ cnt l.length else if ls 7 = true then l0 ++ [108] ++ cnt l.length else if ls 2 = true then l0 ++ [108] else l0 := ⟨_, rfl⟩
  refine wp_region_noPanic ?_
  refine DR.wp_region_inv [some 31, some 32, some 33, some 34, some 35, some 36, some 37, some 38, some 0] (JO XF [(7, 2), (8, 7), (2, 0)] 1 2 (.int .u8 108) cv cl w0 w3) (by kernel_rfl) (by kernel_rfl) (by kernel_rfl) (by kernel_rfl) (fun vals => ⟨below_drew1 HB.out, KeptT.of_below (below_drew (Below.refl _ _)), fun _ _ _ h => (by cases h), fun h => (by cases h), by subst hcv hcl; exact Kd.R_drew HR.out, fun _ _ _ h => (by cases h)⟩) ?step ?fin
  case step =>
    intro j o ls vals a0_ w13 ho hj hpre hS hJ
    have hsz13 := below_size hJ.below
    have hjlt : j < 9 := (Array.getElem?_eq_some_iff.1 ho).1
    obtain rfl | rfl | rfl | rfl | rfl | rfl | rfl | rfl | rfl : j = 0 ∨ j = 1 ∨ j = 2 ∨ j = 3 ∨ j = 4 ∨ j = 5 ∨ j = 6 ∨ j = 7 ∨ j = 8 := by omega
    · cases ho
      have L2 : ls 2 = false := by cases h : ls 2 with | false => rfl | true => (have h2 := hJ.dc 2 0 (by simp) h; rw [hj] at h2; cases h2)
      have L7 : ls 7 = false := by cases h : ls 7 with | false => rfl | true => (have h2 := hJ.dc 7 2 (by simp) h; rw [L2] at h2; cases h2)
      have L8 : ls 8 = false := by cases h : ls 8 with | false => rfl | true => (have h2 := hJ.dc 8 7 (by simp) h; rw [L7] at h2; cases h2)
      have e0 : a0_.tmps[0]?.getD undef = u := by
        refine (DR.eval_get a0_ _).trans ((hS.out 0 (fun k hk => ?_)).trans rfl)
        have hk9 : k < 9 := (List.getElem?_eq_some_iff.1 hk).1
        obtain rfl | rfl | rfl | rfl | rfl | rfl | rfl | rfl | rfl : k = 0 ∨ k = 1 ∨ k = 2 ∨ k = 3 ∨ k = 4 ∨ k = 5 ∨ k = 6 ∨ k = 7 ∨ k = 8 := by omega
        all_goals first | exact L8 | (exfalso; simp at hk)
      refine DR.wpOp_run (v := u) (w' := w13) rfl rfl ?_ ⟨_, rfl, hJ.value X0 (by simp) (by decide) (by subst hcv; simp [DR.upd, show ¬ (2 = 0) by decide, show ¬ (7 = 0) by decide, show ¬ (8 = 0) by decide]) (by subst hcl; simp [DR.upd, show ¬ (2 = 0) by decide, show ¬ (7 = 0) by decide, show ¬ (8 = 0) by decide]) (Below.refl _ _) hsz13⟩
      clear hS hJ hpre
      go_simp
    · cases ho
      refine DR.wpOp_run (v := .slice (some ⟨w13.heap.size, 0, none⟩) 1 1) (w' := w13.alloc (.cells #[.int .u8 108] 5 (0, 0))) rfl rfl ?_ ⟨_, rfl, hJ.step (by simp) (below_then hJ.below hsz13 (below_alloc (Below.refl _ _) _)) (KeptT.of_below (below_alloc (Below.refl _ _) _)) (fun u hu => by rw [X1] at hu; cases hu) (.inl ⟨rfl, _, rfl, blk_new _ _⟩) ?_⟩
      · clear hS hJ hpre
        first | (go_simp; done) | (go_simp; rfl)
      · have h := Kd.R_alloc (o := .cells #[.int .u8 108] 5 (0, 0)) hJ.own
        rw [show cv (DR.upd ls 1 true) (DR.upd vals 1 (.slice (some ⟨w13.heap.size, 0, none⟩) 1 1)) = cv ls vals by subst hcv; simp [DR.upd, show ¬ (2 = 1) by decide, show ¬ (7 = 1) by decide, show ¬ (8 = 1) by decide], show cl (DR.upd ls 1 true) = cl ls by subst hcl; simp [DR.upd, show ¬ (2 = 1) by decide, show ¬ (7 = 1) by decide, show ¬ (8 = 1) by decide]]
        exact h
    · cases ho
      have p0 : ls 0 = true := hpre { on := 0, ground := Ground.data } (by simp) rfl
      have p1 : ls 1 = true := hpre { on := 1, ground := Ground.data } (by simp) rfl
      have e31 : a0_.tmps[31]?.getD undef = u := (DR.eval_get a0_ _).trans ((hS.on 0 31 rfl p0).trans (hJ.val 0 _ X0 p0))
      have L7 : ls 7 = false := by cases h : ls 7 with | false => rfl | true => (have h2 := hJ.dc 7 2 (by simp) h; rw [hj] at h2; cases h2)
      have L8 : ls 8 = false := by cases h : ls 8 with | false => rfl | true => (have h2 := hJ.dc 8 7 (by simp) h; rw [L7] at h2; cases h2)
      obtain ⟨g, hv, hblk⟩ := hJ.box p1 hj
      have hR0 : Kd.R (Kd.int .u8) 5 w13 w0.heap.size (fun _ => True) u l0 := by subst hcv hcl; have h := hJ.own; simp only [hj, L7, L8] at h; exact h
      have E31 := (DR.eval_get a0_ 31).symm.trans e31
      have E32 : a0_.eval (.tmp 32) = .slice (some ⟨g, 0, none⟩) 1 1 := (hS.on 1 32 rfl p1).trans hv
      refine append1_step rfl rfl (.tmp 31) (.tmp 32) 56 rfl Tryd.underlying56 info5 u l0 108 g E31 E32 hR0 hblk hJ.below (by have := HL.out; simp at this; omega) (fun v1 w1 h1 h2 h3 => ⟨_, rfl, hJ.step (by simp [p0]) h2 h3 (fun u hu => by rw [X2] at hu; cases hu) (.inr ⟨by decide, .inl rfl⟩) ?_⟩)
      subst hcv hcl
      simp only [DR.upd, L7, L8, show ¬ (7 = 2) by decide, show ¬ (8 = 2) by decide, if_true, if_false]
      simpa using h1
    · cases ho
      have e3 : a0_.tmps[3]?.getD undef = .pointer (some ⟨g3, 0, none⟩) := (DR.eval_get a0_ _).trans (hS.out' rfl rfl)
      refine DR.wpOp_run (v := .pointer (some ⟨g3, 3, none⟩)) (w' := w13) rfl rfl ?_ ⟨_, rfl, hJ.value X3 (by simp) (by decide) (by subst hcv; simp [DR.upd, show ¬ (2 = 3) by decide, show ¬ (7 = 3) by decide, show ¬ (8 = 3) by decide]) (by subst hcl; simp [DR.upd, show ¬ (2 = 3) by decide, show ¬ (7 = 3) by decide, show ¬ (8 = 3) by decide]) (Below.refl _ _) hsz13⟩
      clear hS hJ hpre
      go_simp
    · cases ho
      have p3 : ls 3 = true := hpre { on := 3, ground := Ground.data } (by simp) rfl
      have e34 : a0_.tmps[34]?.getD undef = .pointer (some ⟨g3, 3, none⟩) := (DR.eval_get a0_ _).trans ((hS.on 3 34 rfl p3).trans (hJ.val 3 _ X3 p3))
      have hc : w13.cell? ⟨g3, 3, none⟩ = some (.slice A l.length c) := (blk_cell (hJ.kept.2 _ _ _ B_g3.out (by decide)) 3).trans rfl
      refine DR.wpOp_run (v := .slice A l.length c) (w' := w13) rfl rfl ?_ ⟨_, rfl, hJ.value X4 (by simp) (by decide) (by subst hcv; simp [DR.upd, show ¬ (2 = 4) by decide, show ¬ (7 = 4) by decide, show ¬ (8 = 4) by decide]) (by subst hcl; simp [DR.upd, show ¬ (2 = 4) by decide, show ¬ (7 = 4) by decide, show ¬ (8 = 4) by decide]) (Below.refl _ _) hsz13⟩
      clear hS hJ hpre
      go_simp
    · cases ho
      have p4 : ls 4 = true := hpre { on := 4, ground := Ground.data } (by simp) rfl
      have e35 : a0_.tmps[35]?.getD undef = .slice A l.length c := (DR.eval_get a0_ _).trans ((hS.on 4 35 rfl p4).trans (hJ.val 4 _ X4 p4))
      refine DR.wpOp_run (v := .int .i64 (l.length : Int)) (w' := w13) rfl rfl ?_ ⟨_, rfl, hJ.value X5 (by simp) (by decide) (by subst hcv; simp [DR.upd, show ¬ (2 = 5) by decide, show ¬ (7 = 5) by decide, show ¬ (8 = 5) by decide]) (by subst hcl; simp [DR.upd, show ¬ (2 = 5) by decide, show ¬ (7 = 5) by decide, show ¬ (8 = 5) by decide]) (Below.refl _ _) hsz13⟩
      clear hS hJ hpre
      go_simp
    · cases ho
      have p5 : ls 5 = true := hpre { on := 5, ground := Ground.data } (by simp) rfl
      have e36 : a0_.tmps[36]?.getD undef = .int .i64 (l.length : Int) := (DR.eval_get a0_ _).trans ((hS.on 5 36 rfl p5).trans (hJ.val 5 _ X5 p5))
      have hwz : IntKind.u64.wrap (l.length : Int) = (l.length : Int) := wrap_u64 (by omega) (by have := HN.out; omega)
      refine DR.wpOp_run (v := .int .u64 (l.length : Int)) (w' := w13) rfl rfl ?_ ⟨_, rfl, hJ.value X6 (by simp) (by decide) (by subst hcv; simp [DR.upd, show ¬ (2 = 6) by decide, show ¬ (7 = 6) by decide, show ¬ (8 = 6) by decide]) (by subst hcl; simp [DR.upd, show ¬ (2 = 6) by decide, show ¬ (7 = 6) by decide, show ¬ (8 = 6) by decide]) (Below.refl _ _) hsz13⟩
      clear hS hJ hpre
      go_simp
    · cases ho
      have p2 : ls 2 = true := hpre { on := 2, ground := Ground.data } (by simp) rfl
      have p6 : ls 6 = true := hpre { on := 6, ground := Ground.data } (by simp) rfl
      have e37 : a0_.tmps[37]?.getD undef = .int .u64 (l.length : Int) := (DR.eval_get a0_ _).trans ((hS.on 6 37 rfl p6).trans (hJ.val 6 _ X6 p6))
      have E37 := (DR.eval_get a0_ 37).symm.trans e37
      have L8 : ls 8 = false := by cases h : ls 8 with | false => rfl | true => (have h2 := hJ.dc 8 7 (by simp) h; rw [hj] at h2; cases h2)
      have hR0 : Kd.R (Kd.int .u8) 5 w13 w0.heap.size (fun _ => True) (vals 2) (l0 ++ [108]) := by subst hcv hcl; have h := hJ.own; simp only [hj, p2, L8, if_true, if_false, Bool.false_eq_true] at h; exact h
      have E33 : a0_.eval (.tmp 33) = vals 2 := hS.on 2 33 rfl p2
      refine DR.wpOp_call rfl rfl Tryd.func50 (by kernel_rfl) rfl #[vals 2, .int .u64 (l.length : Nat)] rfl (by simp only [List.map_toArray, List.map_cons, List.map_nil, E33, E37]) ?_
      refine (cntC (l.length) HN.out _ _ w0 w13 hJ.below hR0 (by have := HL.out; simp at this; simp; omega)).mono ?_
      rintro e wc ⟨v0, rfl, h1, h2, h3⟩
      refine ⟨_, rfl, _, rfl, hJ.step (by simp [p2]) h2 h3 (fun u hu => by rw [X7] at hu; cases hu) (.inr ⟨by decide, .inr (.inl (by first | exact p2 | exact hJ.dc 2 2 (by simp) p2))⟩) ?_⟩
      subst hcv hcl
      simp only [DR.upd, L8, show ¬ (8 = 7) by decide, if_true, if_false]
      simpa using h1
    · cases ho
      have p7 : ls 7 = true := hpre { on := 7, ground := Ground.data } (by simp) rfl
      have hR0 : Kd.R (Kd.int .u8) 5 w13 w0.heap.size (fun _ => True) (vals 7) (l0 ++ [108] ++ cnt l.length) := by subst hcv hcl; have h := hJ.own; simp only [hj, p7, if_true, if_false, Bool.false_eq_true] at h; exact h
      have e38 : a0_.tmps[38]?.getD undef = vals 7 := (DR.eval_get a0_ _).trans (hS.on 7 38 rfl p7)
      refine DR.wpOp_run (v := vals 7) (w' := w13) rfl rfl ?_ ⟨_, rfl, hJ.step (by simp [p7]) hJ.below (KeptT.refl _) (fun u hu => by rw [X8] at hu; cases hu) (.inr ⟨by decide, .inr (.inr (Below.refl _ _))⟩) ?_⟩
      · clear hS hJ hpre hR0
        go_simp
      · subst hcv hcl
        simp only [DR.upd, if_true]
        exact hR0
  case fin =>
    intro vals w13 hJ
    have v0 := hJ.val 0 _ X0 rfl
    have v3 := hJ.val 3 _ X3 rfl
    have v4 := hJ.val 4 _ X4 rfl
    have v5 := hJ.val 5 _ X5 rfl
    have v6 := hJ.val 6 _ X6 rfl
    have HJ := Aside0.mk hJ.below
    have HT2 := Aside0.mk hJ.kept
    have hown := hJ.own
    have hown : Kd.R (Kd.int .u8) 5 w13 w0.heap.size (fun _ => True) (vals 8) (l0 ++ [108] ++ cnt l.length) := by have h := hJ.own; subst hcv hcl; exact h
    obtain ⟨v1, hv1⟩ : ∃ v, v = vals 1 := ⟨_, rfl⟩
    obtain ⟨v2, hv2⟩ : ∃ v, v = vals 2 := ⟨_, rfl⟩
    obtain ⟨v7, hv7⟩ : ∃ v, v = vals 7 := ⟨_, rfl⟩
    obtain ⟨v8, hv8⟩ : ∃ v, v = vals 8 := ⟨_, rfl⟩
    rw [← hv8] at hown
    have HO := Aside0.mk hown
    clear hown hJ hcv hcl X0 X1 X2 X3 X4 X5 X6 X7 X8
    refine NoPanic.normal ?_
    simp only [DR.putAll, v0, v3, v4, v5, v6, ← hv1, ← hv2, ← hv7, ← hv8]
    simp only [Act.put, List.setIfInBounds_toArray, List.set_cons_zero, List.set_cons_succ]
    clear v0 v3 v4 v5 v6 hv1 hv2 hv7 hv8
    have B3 := Aside0.mk (HT2.out.2 _ _ _ B_g3.out (by decide))
    have HT3 := Aside0.mk (HT.out.trans HT2.out)
    have hc_g3_3 : w13.cell? ⟨g3, 3, none⟩ = some (.slice A l.length c) := (blk_cell B3.out 3).trans rfl
    clear HB HR HT HT2 B_g3 hc_g3_0 hc_g3_1 hc_g3_2 hf_g3_0 hf_g3_1 hf_g3_2 hf_g3_3
    go_wp2
    go_loopg [0, 42] l.length (fun kq v0 v42 w' => ∃ i : Nat, v42 = .int .i64 i ∧ Hid (i + kq = l.length) ∧ Aside0 (Kd.R (Kd.int .u8) 5 w' w0.heap.size (fun _ => True) v0 (l0 ++ [108] ++ cnt l.length ++ encL (l.take i))) ∧ Aside0 (Below w0.heap.size w0 w') ∧ Aside0 (KeptT w w'))
    case atStart => exact ⟨0, rfl, by simp [Hid], ⟨by simpa [encL] using HO.out⟩, HJ, HT3⟩
    case round =>
      clear HO HJ HT3 B3
      obtain ⟨i, rfl, HI, HR, HB, HT⟩ := hrel
      cases gk with
      | zero =>
        have hi := HI.out
        have hlss : decide ((i : Int) < (l.length : Int)) = false := decide_eq_false (by omega)
        go_wp2
        go_ret
        refine ⟨_, rfl, ?_, HB.out, HT.out⟩
        have h := HR.out
        rw [List.take_of_length_le (by omega)] at h
        exact h
      | succ gn =>
        have hi := HI.out
        have hlt : i < l.length := by omega
        have hlss : decide ((i : Int) < (l.length : Int)) = true := decide_eq_true (by omega)
        have h0 : (0 : Int) ≤ (i : Int) := by omega
        have h1 : (i : Int) < (l.length : Int) := by omega
        obtain ⟨ad, A3, c3, rfl, a0, a1, a2, a3, hc3, hC3⟩ := at_T32 HX.out (i : Int) h0 h1
        rw [rd_get l i hlt] at a0 a1 a2 a3 hc3 hC3
        simp only [Int.toNat_natCast] at a0 a1 a2 a3
        replace a0 := (HB.out.cell (World.block_lt_of_cell? _ _ a0)).trans a0
        replace a1 := (HB.out.cell (World.block_lt_of_cell? _ _ a1)).trans a1
        replace a2 := (HB.out.cell (World.block_lt_of_cell? _ _ a2)).trans a2
        replace a3 := (HB.out.cell (World.block_lt_of_cell? _ _ a3)).trans a3
        have HL3 := Aside0.mk hc3
        have HC3 := Aside0.mk hC3
        clear hc3 hC3
        have hw1 : IntKind.i64.wrap ((i : Int) + 1) = (i : Int) + 1 := wrap_i64 (by omega) (by omega)
        have IHi := Aside0.mk (IH.out l[i] (List.getElem_mem hlt))
        have hen := encL_take hlt
        have HLi := Aside0.mk (show (l0 ++ [108] ++ cnt l.length ++ encL (l.take i) ++ enc l[i].f0 l[i].f1 l[i].f2 l[i].f3).length ≤ 1000000000 by
          rw [enc_eta, List.append_assoc, ← hen]
          have := HL2.out
          have := encL_le l (i + 1)
          simp only [List.length_append] at *
          omega)
        have HEN := Aside0.mk hen
        clear hen
        go_wp2_with (first | ((with_reducible refine gate_dst (N := 6) rfl ?_); refine box_event ?hg (N := 6) ?hd (cs := #[.int .i64 0, .int .i64 0, .string (⟨#[]⟩ : ByteArray), .slice none 0 0]) (t := 32) ?hr ?_; (case hd => rfl); (case hg => rfl); (case hr => first | (go_simp; done) | (go_simp; rfl)); intro g6 hg w6 hbox hb; have GE_g6 : w.heap.size ≤ g6 := (by rw [hg]; exact HT.out.1); have GO_g6 : w0.heap.size ≤ g6 := (by rw [hg]; exact (below_size HB.out)); have nB_ := Aside0.mk (belL HB.out hb); have nR_ := Aside0.mk (rbL HR.out hb); have nT_ := Aside0.mk (kepL HT.out hb); clear HB HR HT ; have HB := nB_; have HR := nR_; have HT := nT_; clear nB_ nR_ nT_ ; have B_g6 := Aside0.mk hbox; clear hb hbox hg; have hc_g6_0 : w6.cell? ⟨g6, 0, none⟩ = some (.int .i64 0) := (blk_cell B_g6.out 0).trans rfl; have hf_g6_0 := blk_frozen B_g6.out 0; have hc_g6_1 : w6.cell? ⟨g6, 1, none⟩ = some (.int .i64 0) := (blk_cell B_g6.out 1).trans rfl; have hf_g6_1 := blk_frozen B_g6.out 1; have hc_g6_2 : w6.cell? ⟨g6, 2, none⟩ = some (.string (⟨#[]⟩ : ByteArray)) := (blk_cell B_g6.out 2).trans rfl; have hf_g6_2 := blk_frozen B_g6.out 2; have hc_g6_3 : w6.cell? ⟨g6, 3, none⟩ = some (.slice none 0 0) := (blk_cell B_g6.out 3).trans rfl; have hf_g6_3 := blk_frozen B_g6.out 3) | ((with_reducible refine gate_dst (N := 47) rfl ?_); have n0_ := Aside0.mk (st4_put B_g6.out (.int .i64 l[i].f0) (.int .i64 l[i].f1) (.string l[i].f2) (.slice A3 l[i].f3.length c3)); have n1_ := Aside0.mk (b4 HB.out GO_g6 (.int .i64 l[i].f0) (.int .i64 l[i].f1) (.string l[i].f2) (.slice A3 l[i].f3.length c3)); have n2_ := Aside0.mk (R_set4 HR.out B_g6.out (.int .i64 l[i].f0) (.int .i64 l[i].f1) (.string l[i].f2) (.slice A3 l[i].f3.length c3)); have n3_ := Aside0.mk (kept4 HT.out GE_g6 (.int .i64 l[i].f0) (.int .i64 l[i].f1) (.string l[i].f2) (.slice A3 l[i].f3.length c3)); clear HB HR HT B_g6 hc_g6_0 hc_g6_1 hc_g6_2 hc_g6_3 hf_g6_0 hf_g6_1 hf_g6_2 hf_g6_3; generalize ((((w6.setCell ⟨g6, 0, none⟩ (.int .i64 l[i].f0)).setCell ⟨g6, 1, none⟩ (.int .i64 l[i].f1)).setCell ⟨g6, 2, none⟩ (.string l[i].f2)).setCell ⟨g6, 3, none⟩ (.slice A3 l[i].f3.length c3)) = w6b at *; have B_g6 := n0_; have HB := n1_; have HR := n2_; have HT := n3_; clear n0_ n1_ n2_ n3_; have hc_g6_0 : w6b.cell? ⟨g6, 0, none⟩ = some (.int .i64 l[i].f0) := (blk_cell B_g6.out 0).trans rfl; have hc_g6_1 : w6b.cell? ⟨g6, 1, none⟩ = some (.int .i64 l[i].f1) := (blk_cell B_g6.out 1).trans rfl; have hc_g6_2 : w6b.cell? ⟨g6, 2, none⟩ = some (.string l[i].f2) := (blk_cell B_g6.out 2).trans rfl; have hc_g6_3 : w6b.cell? ⟨g6, 3, none⟩ = some (.slice A3 l[i].f3.length c3) := (blk_cell B_g6.out 3).trans rfl) | ((with_reducible refine gate_callee (f := 32) rfl ?_); refine goesL_ (some 48) rfl rfl Tryd.func32 (by kernel_rfl) rfl #[u0, .agg #[.int .i64 l[i].f0, .int .i64 l[i].f1, .string l[i].f2, .slice A3 l[i].f3.length c3]] rfl (by (try simp only [List.map_toArray, List.map_cons, List.map_nil]); first | done | rfl) ?_; (with_reducible refine (IHi.out A3 c3 u0 _ w0 _ HB.out HR.out HC3.out HL3.out HLi.out).mono ?_); rintro e w10 ⟨v1, rfl, hR1, hB1, hK1⟩; refine ⟨_, rfl, ?_⟩; have HT1 := Aside0.mk (HT.out.trans hK1); clear HT HB HR B_g6; have HT := HT1; have HB := Aside0.mk hB1; have HR := Aside0.mk hR1; clear HT1 hB1 hR1 hK1))
        go_roundg gn
        case measure => omega
        case rel =>
          refine ⟨i + 1, (by first | rfl | (simp; done) | (simp [*]; done)), (by simp only [Hid]; omega), ⟨?_⟩, HB, HT⟩
          have h := HR.out
          rw [enc_eta, List.append_assoc, ← HEN.out] at h
          exact h
theorem wriAll : ∀ (n : Nat) (x : S32), SizeOf.sizeOf x ≤ n → OkW x.f0 x.f1 x.f2 x.f3
  | 0, x, h => absurd h (by cases x; simp only [S32.mk.sizeOf_spec]; omega)
  | n + 1, ⟨a, b, s, l⟩, h => by
    by_cases h1 : a = 1
    · subst h1; exact wriN b s l
    · by_cases h2 : a = 2
      · subst h2; exact wriT b s l
      · exact wriL a b s l h1 h2 (fun y hy => wriAll n y (by have := size_mem hy a b s; omega))
def codec_write.f (l0 : List Int) (a1_0 : Int) (a1_1 : Int) (a1_2 : ByteArray) (l1_3 : List (S32)) : Option (List Int) := if (l0 ++ enc a1_0 a1_1 a1_2 l1_3).length ≤ 1000000000 then some (l0 ++ enc a1_0 a1_1 a1_2 l1_3) else none
theorem codec_write.nil (a1_0 : Int) (a1_1 : Int) (a1_2 : ByteArray) (A1_3 : Option Addr) (c1_3 : Nat) (l1_3 : List (S32)) (r : List Int) (w : World) (hr1_3 : Kd.C k32 w A1_3 l1_3.length l1_3) (hc1_3 : l1_3.length ≤ c1_3) (h : codec_write.f [] a1_0 a1_1 a1_2 l1_3 = some r) :
    Calls Tryd.prog 32 #[.slice none 0 0, .agg #[.int .i64 a1_0, .int .i64 a1_1, .string a1_2, .slice A1_3 l1_3.length c1_3]] w fun e w' => ∃ v0_ : Value, e = .returned (v0_) ∧ Kd.R (Kd.int .u8) 5 w' w.heap.size (fun _ => True) v0_ r ∧ Below w.heap.size w w' := by
  have hl : ([] ++ enc a1_0 a1_1 a1_2 l1_3).length ≤ 1000000000 := by
    apply Decidable.by_contra
    intro hn
    unfold codec_write.f at h
    rw [if_neg hn] at h
    cases h
  unfold codec_write.f at h
  rw [if_pos hl] at h
  cases h
  refine (wriAll _ ⟨a1_0, a1_1, a1_2, l1_3⟩ (Nat.le_refl _) A1_3 c1_3 (.slice none 0 0) [] w w (Below.refl _ _) (Kd.R_nil _ _ _ _ _) hr1_3 hc1_3 hl).mono ?_
  rintro e w' ⟨v0, rfl, h1, h2, _⟩
  exact ⟨v0, rfl, h1, h2⟩
end Go.Proofs.YtcmphojichgfeaaDoor.QC
