/- The codec seat: Compare, with the library's CompareFunc, walked by hand. -/
import Derived.Test.YtcmphojichgfeaaDoorCDR
import Derived.Test.YtcmphojichgfeaaDoorCB2
namespace Go.Proofs.YtcmphojichgfeaaDoor.QC
open Go.RowKit Go.Proofs.YtcmphojichgfeaaDoorW.PrintWords Go.Proofs.YtcmphojichgfeaaDoorW.PrintLast Go.Proofs.YtcmphojichgfeaaDoorW.PrintMore
set_option linter.unusedVariables false
set_option linter.unusedSimpArgs false
attribute [local go_sem] max2_int min2_int max_two min_two
theorem cmp64 (a b : Int) : cmp_Compare_int64.f a b = some (Lib.compareInt a b) := by
  unfold cmp_Compare_int64.f cmp_isNaN_int64.f Lib.compareInt
  simp only [Option.bind_some, bne_self_eq_false, Bool.false_eq_true, if_false]
  split
  · rfl
  · split <;> rfl
def fnz : List Int → Int
  | [] => 0
  | c :: l => orI c (fnz l)
theorem rd_int (l : List Int) (j : Nat) (h : j < l.length) : rd l (j : Int) = l[j] := by
  unfold rd
  rw [Int.toNat_natCast, List.getD_eq_getElem?_getD, List.getElem?_eq_getElem h, Option.getD_some]
theorem orl (l : List Int) (hl : l.length ≤ 100) : ∀ (d j fuel : Nat), l.length = j + d → d < fuel → cmp_Or_int.l0 fuel 0 l (l.length : Int) (j : Int) = some (fnz (l.drop j))
  | 0, j, f + 1, hj, _ => by
    rw [cmp_Or_int.l0, if_neg (by omega), List.drop_of_length_le (by omega), fnz]
  | d + 1, j, f + 1, hj, hf => by
    have hlt : j < l.length := by omega
    have ih := orl l hl d (j + 1) f (by omega) (by omega)
    have hw : wrap64 ((j : Int) + 1) = ((j + 1 : Nat) : Int) := by unfold wrap64; omega
    rw [cmp_Or_int.l0, if_pos (by omega), if_pos (by omega), if_pos (by omega), rd_int l j hlt, hw, ih, List.drop_eq_getElem_cons hlt, fnz, orI]
    split
    · rfl
    · rfl
  | d, j, 0, _, hf => by omega
theorem or4 (c1 c2 c3 c4 : Int) : cmp_Or_int.f 10 [c1, c2, c3, c4] = some (orI c1 (orI c2 (orI c3 c4))) := by
  have h := orl [c1, c2, c3, c4] (by simp) 4 0 10 rfl (by omega)
  have e : fnz [c4] = c4 := by
    unfold fnz fnz orI
    split
    · rename_i h; exact h.symm
    · rfl
  show cmp_Or_int.l0 10 0 [c1, c2, c3, c4] _ _ = _
  rw [show (([c1, c2, c3, c4] : List Int).length : Int) = (([c1, c2, c3, c4] : List Int).length : Int) from rfl]
  refine h.trans ?_
  show some (orI c1 (orI c2 (orI c3 (fnz [c4])))) = _
  rw [e]
abbrev OkCmp (a b : Int) (s : ByteArray) (l : List S32) (a' b' : Int) (s' : ByteArray) (l' : List S32) : Prop := ∀ (A : Option Addr) (c : Nat) (A' : Option Addr) (c' : Nat) (w : World), Kd.C k32 w A l.length l → l.length ≤ c → Kd.C k32 w A' l'.length l' → l'.length ≤ c' →
  Calls Tryd.prog 25 #[.agg #[.int .i64 a, .int .i64 b, .string s, .slice A l.length c], .agg #[.int .i64 a', .int .i64 b', .string s', .slice A' l'.length c']] w fun e w' => e = .returned (.int .i64 (cmpV a b s l a' b' s' l')) ∧ Below w.heap.size w w'
theorem cmpL_step {l l' : List S32} {i : Nat} (h : i < l.length) (h' : i < l'.length) : cmpL (l.drop i) (l'.drop i) = orI (cmpS l[i] l'[i]) (cmpL (l.drop (i + 1)) (l'.drop (i + 1))) := by
  rw [List.drop_eq_getElem_cons h, List.drop_eq_getElem_cons h', cmpL]
theorem cmpL_gt {l l' : List S32} {i : Nat} (h : i < l.length) (h' : l'.length ≤ i) : cmpL (l.drop i) (l'.drop i) = 1 := by
  rw [List.drop_eq_getElem_cons h, List.drop_of_length_le h', cmpL]
theorem cmpL_lt {l l' : List S32} {i : Nat} (h : l.length ≤ i) (h' : i < l'.length) : cmpL (l.drop i) (l'.drop i) = -1 := by
  rw [List.drop_of_length_le h, List.drop_eq_getElem_cons h', cmpL]
theorem cmpL_nil {l l' : List S32} {i : Nat} (h : l.length ≤ i) (h' : l'.length ≤ i) : cmpL (l.drop i) (l'.drop i) = 0 := by
  rw [List.drop_of_length_le h, List.drop_of_length_le h', cmpL]
set_option maxHeartbeats 8000000 in
theorem cmfC (l l' : List S32) (ih : ∀ x ∈ l, ∀ y ∈ l', OkCmp x.f0 x.f1 x.f2 x.f3 y.f0 y.f1 y.f2 y.f3) (A : Option Addr) (c : Nat) (A' : Option Addr) (c' : Nat) (w : World) (hr : Kd.C k32 w A l.length l) (hc : l.length ≤ c) (hr' : Kd.C k32 w A' l'.length l') (hc' : l'.length ≤ c') :
    Calls Tryd.prog 45 #[.slice A l.length c, .slice A' l'.length c', .func (.func 25) #[] #[]] w fun e w' => e = .returned (.int .i64 (cmpL l l')) ∧ Below w.heap.size w w' := by
  have HB := Aside0.mk (Below.refl w.heap.size w)
  have HR := Aside0.mk hr
  have HC := Aside0.mk hc
  have HR' := Aside0.mk hr'
  have HC' := Aside0.mk hc'
  clear hr hc hr' hc'
  have IH := Aside0.mk ih
  have hmax := C_max HR.out
  have hmax' := C_max HR'.out
  clear ih
  obtain ⟨R, hR⟩ : ∃ R, R = cmpL l l' := ⟨_, rfl⟩
  rw [← hR]
  have HRR := Aside0.mk hR
  clear hR
  go_enter Tryd.func45, Tryd.ntmps45
  go_wp2
  go_loopg [13] l.length (fun kq v13 w' => ∃ i : Nat, v13 = .int .i64 i ∧ Hid (i + kq = l.length) ∧ Hid (i ≤ l'.length) ∧ Aside0 (R = cmpL (l.drop i) (l'.drop i)) ∧ Aside0 (Below w.heap.size w w'))
  case atStart => exact ⟨0, rfl, by simp [Hid], by simp [Hid], ⟨by simpa using HRR.out⟩, HB⟩
  case round =>
    clear HB HRR
    obtain ⟨i, rfl, HI, HI', HRR, HB⟩ := hrel
    cases gk with
    | zero =>
      have hi := HI.out
      have hi' := HI'.out
      have hlss : decide ((i : Int) < (l.length : Int)) = false := decide_eq_false (by omega)
      by_cases hq : l.length < l'.length
      · have hqd : decide ((l.length : Int) < (l'.length : Int)) = true := decide_eq_true (by omega)
        have hR := HRR.out.trans (cmpL_lt (by omega) (by omega))
        go_wp2
        go_ret
        exact ⟨by rw [hR]; rfl, (by repeat (first | (with_reducible first | exact HB.out | apply below_alloc | apply pw_below_drewN | apply below_drew1 | apply below_drew) | exact HB.out))⟩
      · have hqd : decide ((l.length : Int) < (l'.length : Int)) = false := decide_eq_false (by omega)
        have hR := HRR.out.trans (cmpL_nil (by omega) (by omega))
        go_wp2
        go_ret
        exact ⟨by rw [hR]; rfl, (by repeat (first | (with_reducible first | exact HB.out | apply below_alloc | apply pw_below_drewN | apply below_drew1 | apply below_drew) | exact HB.out))⟩
    | succ gn =>
      have hi := HI.out
      have hi' := HI'.out
      have hlt : i < l.length := by omega
      have hlss : decide ((i : Int) < (l.length : Int)) = true := decide_eq_true (by omega)
      have h0 : (0 : Int) ≤ (i : Int) := by omega
      have h1 : (i : Int) < (l.length : Int) := by omega
      have HQ := Aside0.mk (Below.refl wr.heap.size wr)
      obtain ⟨ad, A3, c3, rfl, a0, a1, a2, a3, hc3, hC3⟩ := at_T32 (Kd.C_below HR.out HB.out) (i : Int) h0 h1
      rw [rd_get l i hlt] at a0 a1 a2 a3 hc3 hC3
      simp only [Int.toNat_natCast] at a0 a1 a2 a3
      have HC3 := Aside0.mk hc3
      have HR3 := Aside0.mk hC3
      clear hc3 hC3
      have hw1 : IntKind.i64.wrap ((i : Int) + 1) = (i : Int) + 1 := wrap_i64 (by omega) (by omega)
      by_cases hq : l'.length ≤ i
      · have hqd : decide ((l'.length : Int) ≤ (i : Int)) = true := decide_eq_true (by omega)
        have hR := HRR.out.trans (cmpL_gt hlt hq)
        go_wp2_with (first | ((with_reducible refine gate_dst (N := 8) rfl ?_); refine box_event ?hg (N := 8) ?hd (cs := #[.int .i64 0, .int .i64 0, .string (⟨#[]⟩ : ByteArray), .slice none 0 0]) (t := 32) ?hr ?_; (case hd => rfl); (case hg => rfl); (case hr => first | (go_simp; done) | (go_simp; rfl)); intro g8 hg w8 hbox hb; have GQ_g8 : wr.heap.size ≤ g8 := (by rw [hg]; exact (below_size (blL HQ.out))); have GE_g8 : w.heap.size ≤ g8 := (by rw [hg]; exact (below_size (blL HB.out))); have nB_ := Aside0.mk (bbL HB.out hb); clear HB; have HB := nB_; clear  nB_ ; have nQ_ := Aside0.mk (bbL HQ.out hb); clear HQ; have HQ := nQ_; clear nQ_; have B_g8 := Aside0.mk hbox; clear hb hbox hg; have hc_g8_0 : w8.cell? ⟨g8, 0, none⟩ = some (.int .i64 0) := (blk_cell B_g8.out 0).trans rfl; have hf_g8_0 := blk_frozen B_g8.out 0; have hc_g8_1 : w8.cell? ⟨g8, 1, none⟩ = some (.int .i64 0) := (blk_cell B_g8.out 1).trans rfl; have hf_g8_1 := blk_frozen B_g8.out 1; have hc_g8_2 : w8.cell? ⟨g8, 2, none⟩ = some (.string (⟨#[]⟩ : ByteArray)) := (blk_cell B_g8.out 2).trans rfl; have hf_g8_2 := blk_frozen B_g8.out 2; have hc_g8_3 : w8.cell? ⟨g8, 3, none⟩ = some (.slice none 0 0) := (blk_cell B_g8.out 3).trans rfl; have hf_g8_3 := blk_frozen B_g8.out 3) | ((with_reducible refine gate_dst (N := 20) rfl ?_); have n0_ := Aside0.mk (st4_put B_g8.out (.int .i64 l[i].f0) (.int .i64 l[i].f1) (.string l[i].f2) (.slice A3 l[i].f3.length c3)); have n1_ := Aside0.mk (st4_B HB.out GE_g8 (.int .i64 l[i].f0) (.int .i64 l[i].f1) (.string l[i].f2) (.slice A3 l[i].f3.length c3)); have n2_ := Aside0.mk (st4_B HQ.out GQ_g8 (.int .i64 l[i].f0) (.int .i64 l[i].f1) (.string l[i].f2) (.slice A3 l[i].f3.length c3)); clear HB HQ B_g8  hc_g8_0 hf_g8_0 hc_g8_1 hf_g8_1 hc_g8_2 hf_g8_2 hc_g8_3 hf_g8_3; generalize ((((w8.setCell ⟨g8, 0, none⟩ (.int .i64 l[i].f0)).setCell ⟨g8, 1, none⟩ (.int .i64 l[i].f1)).setCell ⟨g8, 2, none⟩ (.string l[i].f2)).setCell ⟨g8, 3, none⟩ (.slice A3 l[i].f3.length c3)) = w8b at *; have B_g8 := n0_; have HB := n1_; have HQ := n2_; clear n0_ n1_ n2_; have hc_g8_0 : w8b.cell? ⟨g8, 0, none⟩ = some (.int .i64 l[i].f0) := (blk_cell B_g8.out 0).trans rfl; have hf_g8_0 := blk_frozen B_g8.out 0; have hc_g8_1 : w8b.cell? ⟨g8, 1, none⟩ = some (.int .i64 l[i].f1) := (blk_cell B_g8.out 1).trans rfl; have hf_g8_1 := blk_frozen B_g8.out 1; have hc_g8_2 : w8b.cell? ⟨g8, 2, none⟩ = some (.string l[i].f2) := (blk_cell B_g8.out 2).trans rfl; have hf_g8_2 := blk_frozen B_g8.out 2; have hc_g8_3 : w8b.cell? ⟨g8, 3, none⟩ = some (.slice A3 l[i].f3.length c3) := (blk_cell B_g8.out 3).trans rfl; have hf_g8_3 := blk_frozen B_g8.out 3))
        go_ret
        exact ⟨by rw [hR]; rfl, (by repeat (first | (with_reducible first | exact HB.out | apply below_alloc | apply pw_below_drewN | apply below_drew1 | apply below_drew) | exact HB.out))⟩
      · have hlt' : i < l'.length := by omega
        have hqd : decide ((l'.length : Int) ≤ (i : Int)) = false := decide_eq_false (by omega)
        have hqN : ¬ l'.length ≤ i := hq
        have h1' : (i : Int) < (l'.length : Int) := by omega
        obtain ⟨ad', A4, c4, rfl, b0, b1, b2, b3, hc4, hC4⟩ := at_T32 (Kd.C_below HR'.out HB.out) (i : Int) h0 h1'
        rw [rd_get l' i hlt'] at b0 b1 b2 b3 hc4 hC4
        simp only [Int.toNat_natCast] at b0 b1 b2 b3
        have HC4 := Aside0.mk hc4
        have HR4 := Aside0.mk hC4
        clear hc4 hC4
        have IHi := Aside0.mk (IH.out l[i] (List.getElem_mem hlt) l'[i] (List.getElem_mem hlt'))
        have hstep := HRR.out.trans (cmpL_step hlt hlt')
        obtain ⟨v, hv⟩ : ∃ v, v = cmpS l[i] l'[i] := ⟨_, rfl⟩
        have HV := Aside0.mk hv
        rw [← hv] at hstep
        clear hv
        by_cases hz : v = 0
        · have hz1 : (v == 0) = true := beq_iff_eq.mpr hz
          have hz2 : (v != 0) = false := bne_eq_false_iff_eq.mpr hz
          have hR := Aside0.mk (hstep.trans (show orI v _ = _ by rw [orI, if_pos hz]))
          clear hz hstep
          go_wp2_with (first | ((with_reducible refine gate_dst (N := 8) rfl ?_); refine box_event ?hg (N := 8) ?hd (cs := #[.int .i64 0, .int .i64 0, .string (⟨#[]⟩ : ByteArray), .slice none 0 0]) (t := 32) ?hr ?_; (case hd => rfl); (case hg => rfl); (case hr => first | (go_simp; done) | (go_simp; rfl)); intro g8 hg w8 hbox hb; have GQ_g8 : wr.heap.size ≤ g8 := (by rw [hg]; exact (below_size (blL HQ.out))); have GE_g8 : w.heap.size ≤ g8 := (by rw [hg]; exact (below_size (blL HB.out))); have nB_ := Aside0.mk (bbL HB.out hb); clear HB; have HB := nB_; clear  nB_ ; have nQ_ := Aside0.mk (bbL HQ.out hb); clear HQ; have HQ := nQ_; clear nQ_; have B_g8 := Aside0.mk hbox; clear hb hbox hg; have hc_g8_0 : w8.cell? ⟨g8, 0, none⟩ = some (.int .i64 0) := (blk_cell B_g8.out 0).trans rfl; have hf_g8_0 := blk_frozen B_g8.out 0; have hc_g8_1 : w8.cell? ⟨g8, 1, none⟩ = some (.int .i64 0) := (blk_cell B_g8.out 1).trans rfl; have hf_g8_1 := blk_frozen B_g8.out 1; have hc_g8_2 : w8.cell? ⟨g8, 2, none⟩ = some (.string (⟨#[]⟩ : ByteArray)) := (blk_cell B_g8.out 2).trans rfl; have hf_g8_2 := blk_frozen B_g8.out 2; have hc_g8_3 : w8.cell? ⟨g8, 3, none⟩ = some (.slice none 0 0) := (blk_cell B_g8.out 3).trans rfl; have hf_g8_3 := blk_frozen B_g8.out 3) | ((with_reducible refine gate_dst (N := 20) rfl ?_); have n0_ := Aside0.mk (st4_put B_g8.out (.int .i64 l[i].f0) (.int .i64 l[i].f1) (.string l[i].f2) (.slice A3 l[i].f3.length c3)); have n1_ := Aside0.mk (st4_B HB.out GE_g8 (.int .i64 l[i].f0) (.int .i64 l[i].f1) (.string l[i].f2) (.slice A3 l[i].f3.length c3)); have n2_ := Aside0.mk (st4_B HQ.out GQ_g8 (.int .i64 l[i].f0) (.int .i64 l[i].f1) (.string l[i].f2) (.slice A3 l[i].f3.length c3)); clear HB HQ B_g8  hc_g8_0 hf_g8_0 hc_g8_1 hf_g8_1 hc_g8_2 hf_g8_2 hc_g8_3 hf_g8_3; generalize ((((w8.setCell ⟨g8, 0, none⟩ (.int .i64 l[i].f0)).setCell ⟨g8, 1, none⟩ (.int .i64 l[i].f1)).setCell ⟨g8, 2, none⟩ (.string l[i].f2)).setCell ⟨g8, 3, none⟩ (.slice A3 l[i].f3.length c3)) = w8b at *; have B_g8 := n0_; have HB := n1_; have HQ := n2_; clear n0_ n1_ n2_; have hc_g8_0 : w8b.cell? ⟨g8, 0, none⟩ = some (.int .i64 l[i].f0) := (blk_cell B_g8.out 0).trans rfl; have hf_g8_0 := blk_frozen B_g8.out 0; have hc_g8_1 : w8b.cell? ⟨g8, 1, none⟩ = some (.int .i64 l[i].f1) := (blk_cell B_g8.out 1).trans rfl; have hf_g8_1 := blk_frozen B_g8.out 1; have hc_g8_2 : w8b.cell? ⟨g8, 2, none⟩ = some (.string l[i].f2) := (blk_cell B_g8.out 2).trans rfl; have hf_g8_2 := blk_frozen B_g8.out 2; have hc_g8_3 : w8b.cell? ⟨g8, 3, none⟩ = some (.slice A3 l[i].f3.length c3) := (blk_cell B_g8.out 3).trans rfl; have hf_g8_3 := blk_frozen B_g8.out 3; have b0 := (HQ.out.cell (World.block_lt_of_cell? _ _ b0)).trans b0; have b1 := (HQ.out.cell (World.block_lt_of_cell? _ _ b1)).trans b1; have b2 := (HQ.out.cell (World.block_lt_of_cell? _ _ b2)).trans b2; have b3 := (HQ.out.cell (World.block_lt_of_cell? _ _ b3)).trans b3) | ((with_reducible refine gate_dst (N := 9) rfl ?_); refine box_event ?hg (N := 9) ?hd (cs := #[.int .i64 0, .int .i64 0, .string (⟨#[]⟩ : ByteArray), .slice none 0 0]) (t := 32) ?hr ?_; (case hd => rfl); (case hg => rfl); (case hr => first | (go_simp; done) | (go_simp; rfl)); intro g9 hg w9 hbox hb; have GQ_g9 : wr.heap.size ≤ g9 := (by rw [hg]; exact (below_size (blL HQ.out))); have GE_g9 : w.heap.size ≤ g9 := (by rw [hg]; exact (below_size (blL HB.out))); have NE_g8_g9 : g8 ≠ g9 := (by rw [hg]; exact Nat.ne_of_lt (lL B_g8.out)); have NE_g9_g8 := NE_g8_g9.symm; have n0_ := Aside0.mk (bL B_g8.out hb); have nB_ := Aside0.mk (bbL HB.out hb); clear B_g8 HB; have B_g8 := n0_; have HB := nB_; clear n0_ nB_ ; have nQ_ := Aside0.mk (bbL HQ.out hb); clear HQ; have HQ := nQ_; clear nQ_; have B_g9 := Aside0.mk hbox; clear hb hbox hg; have hc_g8_0 : w9.cell? ⟨g8, 0, none⟩ = some (.int .i64 l[i].f0) := (blk_cell B_g8.out 0).trans rfl; have hf_g8_0 := blk_frozen B_g8.out 0; have hc_g8_1 : w9.cell? ⟨g8, 1, none⟩ = some (.int .i64 l[i].f1) := (blk_cell B_g8.out 1).trans rfl; have hf_g8_1 := blk_frozen B_g8.out 1; have hc_g8_2 : w9.cell? ⟨g8, 2, none⟩ = some (.string l[i].f2) := (blk_cell B_g8.out 2).trans rfl; have hf_g8_2 := blk_frozen B_g8.out 2; have hc_g8_3 : w9.cell? ⟨g8, 3, none⟩ = some (.slice A3 l[i].f3.length c3) := (blk_cell B_g8.out 3).trans rfl; have hf_g8_3 := blk_frozen B_g8.out 3; have hc_g9_0 : w9.cell? ⟨g9, 0, none⟩ = some (.int .i64 0) := (blk_cell B_g9.out 0).trans rfl; have hf_g9_0 := blk_frozen B_g9.out 0; have hc_g9_1 : w9.cell? ⟨g9, 1, none⟩ = some (.int .i64 0) := (blk_cell B_g9.out 1).trans rfl; have hf_g9_1 := blk_frozen B_g9.out 1; have hc_g9_2 : w9.cell? ⟨g9, 2, none⟩ = some (.string (⟨#[]⟩ : ByteArray)) := (blk_cell B_g9.out 2).trans rfl; have hf_g9_2 := blk_frozen B_g9.out 2; have hc_g9_3 : w9.cell? ⟨g9, 3, none⟩ = some (.slice none 0 0) := (blk_cell B_g9.out 3).trans rfl; have hf_g9_3 := blk_frozen B_g9.out 3) | ((with_reducible refine gate_dst (N := 27) rfl ?_); have n0_ := Aside0.mk (st4_put B_g9.out (.int .i64 l'[i].f0) (.int .i64 l'[i].f1) (.string l'[i].f2) (.slice A4 l'[i].f3.length c4)); have n1_ := Aside0.mk (st4_B HB.out GE_g9 (.int .i64 l'[i].f0) (.int .i64 l'[i].f1) (.string l'[i].f2) (.slice A4 l'[i].f3.length c4)); have n2_ := Aside0.mk (st4_B HQ.out GQ_g9 (.int .i64 l'[i].f0) (.int .i64 l'[i].f1) (.string l'[i].f2) (.slice A4 l'[i].f3.length c4)); have m_g8 := Aside0.mk (st4_far B_g8.out NE_g8_g9 (.int .i64 l'[i].f0) (.int .i64 l'[i].f1) (.string l'[i].f2) (.slice A4 l'[i].f3.length c4)); clear HB HQ B_g9 B_g8 hc_g8_0 hf_g8_0 hc_g8_1 hf_g8_1 hc_g8_2 hf_g8_2 hc_g8_3 hf_g8_3 hc_g9_0 hf_g9_0 hc_g9_1 hf_g9_1 hc_g9_2 hf_g9_2 hc_g9_3 hf_g9_3; generalize ((((w9.setCell ⟨g9, 0, none⟩ (.int .i64 l'[i].f0)).setCell ⟨g9, 1, none⟩ (.int .i64 l'[i].f1)).setCell ⟨g9, 2, none⟩ (.string l'[i].f2)).setCell ⟨g9, 3, none⟩ (.slice A4 l'[i].f3.length c4)) = w9b at *; have B_g9 := n0_; have HB := n1_; have HQ := n2_; clear n0_ n1_ n2_; have B_g8 := m_g8; clear m_g8; have hc_g8_0 : w9b.cell? ⟨g8, 0, none⟩ = some (.int .i64 l[i].f0) := (blk_cell B_g8.out 0).trans rfl; have hf_g8_0 := blk_frozen B_g8.out 0; have hc_g8_1 : w9b.cell? ⟨g8, 1, none⟩ = some (.int .i64 l[i].f1) := (blk_cell B_g8.out 1).trans rfl; have hf_g8_1 := blk_frozen B_g8.out 1; have hc_g8_2 : w9b.cell? ⟨g8, 2, none⟩ = some (.string l[i].f2) := (blk_cell B_g8.out 2).trans rfl; have hf_g8_2 := blk_frozen B_g8.out 2; have hc_g8_3 : w9b.cell? ⟨g8, 3, none⟩ = some (.slice A3 l[i].f3.length c3) := (blk_cell B_g8.out 3).trans rfl; have hf_g8_3 := blk_frozen B_g8.out 3; have hc_g9_0 : w9b.cell? ⟨g9, 0, none⟩ = some (.int .i64 l'[i].f0) := (blk_cell B_g9.out 0).trans rfl; have hf_g9_0 := blk_frozen B_g9.out 0; have hc_g9_1 : w9b.cell? ⟨g9, 1, none⟩ = some (.int .i64 l'[i].f1) := (blk_cell B_g9.out 1).trans rfl; have hf_g9_1 := blk_frozen B_g9.out 1; have hc_g9_2 : w9b.cell? ⟨g9, 2, none⟩ = some (.string l'[i].f2) := (blk_cell B_g9.out 2).trans rfl; have hf_g9_2 := blk_frozen B_g9.out 2; have hc_g9_3 : w9b.cell? ⟨g9, 3, none⟩ = some (.slice A4 l'[i].f3.length c4) := (blk_cell B_g9.out 3).trans rfl; have hf_g9_3 := blk_frozen B_g9.out 3) | ((with_reducible refine gate_dst (N := 29) rfl ?_); refine goesT_ (some 29) rfl rfl (f := 25) Tryd.func25 (by kernel_rfl) rfl #[.agg #[.int .i64 l[i].f0, .int .i64 l[i].f1, .string l[i].f2, .slice A3 l[i].f3.length c3], .agg #[.int .i64 l'[i].f0, .int .i64 l'[i].f1, .string l'[i].f2, .slice A4 l'[i].f3.length c4]] rfl rfl (by (try simp only [List.map_toArray, List.map_cons, List.map_nil]); first | done | rfl) ?_; (with_reducible refine (IHi.out _ _ _ _ _ (Kd.C_below HR3.out HQ.out) HC3.out (Kd.C_below HR4.out HQ.out) HC4.out).mono ?_); rintro e w10 ⟨rfl, hb⟩; rw [cmp_eta, ← HV.out]; refine ⟨_, rfl, ?_⟩; have n0_ := Aside0.mk (bL B_g8.out hb); have n1_ := Aside0.mk (bL B_g9.out hb); have nB_ := Aside0.mk (bbL HB.out hb); clear B_g8 B_g9 HB; have B_g8 := n0_; have B_g9 := n1_; have HB := nB_; clear n0_ n1_ nB_ ; have nQ_ := Aside0.mk (bbL HQ.out hb); clear HQ; have HQ := nQ_; clear nQ_; clear hb))
          go_roundg gn
          case measure => omega
          case rel => exact ⟨i + 1, (by first | rfl | (simp; done) | (simp [*]; done)), (by simp only [Hid]; omega), (by simp only [Hid]; omega), hR, HB⟩
        · have hz1 : (v == 0) = false := beq_eq_false_iff_ne.mpr hz
          have hz2 : (v != 0) = true := bne_iff_ne.mpr hz
          have hR := Aside0.mk (hstep.trans (show orI v _ = v by rw [orI, if_neg hz]))
          clear hz hstep
          go_wp2_with (first | ((with_reducible refine gate_dst (N := 8) rfl ?_); refine box_event ?hg (N := 8) ?hd (cs := #[.int .i64 0, .int .i64 0, .string (⟨#[]⟩ : ByteArray), .slice none 0 0]) (t := 32) ?hr ?_; (case hd => rfl); (case hg => rfl); (case hr => first | (go_simp; done) | (go_simp; rfl)); intro g8 hg w8 hbox hb; have GQ_g8 : wr.heap.size ≤ g8 := (by rw [hg]; exact (below_size (blL HQ.out))); have GE_g8 : w.heap.size ≤ g8 := (by rw [hg]; exact (below_size (blL HB.out))); have nB_ := Aside0.mk (bbL HB.out hb); clear HB; have HB := nB_; clear  nB_ ; have nQ_ := Aside0.mk (bbL HQ.out hb); clear HQ; have HQ := nQ_; clear nQ_; have B_g8 := Aside0.mk hbox; clear hb hbox hg; have hc_g8_0 : w8.cell? ⟨g8, 0, none⟩ = some (.int .i64 0) := (blk_cell B_g8.out 0).trans rfl; have hf_g8_0 := blk_frozen B_g8.out 0; have hc_g8_1 : w8.cell? ⟨g8, 1, none⟩ = some (.int .i64 0) := (blk_cell B_g8.out 1).trans rfl; have hf_g8_1 := blk_frozen B_g8.out 1; have hc_g8_2 : w8.cell? ⟨g8, 2, none⟩ = some (.string (⟨#[]⟩ : ByteArray)) := (blk_cell B_g8.out 2).trans rfl; have hf_g8_2 := blk_frozen B_g8.out 2; have hc_g8_3 : w8.cell? ⟨g8, 3, none⟩ = some (.slice none 0 0) := (blk_cell B_g8.out 3).trans rfl; have hf_g8_3 := blk_frozen B_g8.out 3) | ((with_reducible refine gate_dst (N := 20) rfl ?_); have n0_ := Aside0.mk (st4_put B_g8.out (.int .i64 l[i].f0) (.int .i64 l[i].f1) (.string l[i].f2) (.slice A3 l[i].f3.length c3)); have n1_ := Aside0.mk (st4_B HB.out GE_g8 (.int .i64 l[i].f0) (.int .i64 l[i].f1) (.string l[i].f2) (.slice A3 l[i].f3.length c3)); have n2_ := Aside0.mk (st4_B HQ.out GQ_g8 (.int .i64 l[i].f0) (.int .i64 l[i].f1) (.string l[i].f2) (.slice A3 l[i].f3.length c3)); clear HB HQ B_g8  hc_g8_0 hf_g8_0 hc_g8_1 hf_g8_1 hc_g8_2 hf_g8_2 hc_g8_3 hf_g8_3; generalize ((((w8.setCell ⟨g8, 0, none⟩ (.int .i64 l[i].f0)).setCell ⟨g8, 1, none⟩ (.int .i64 l[i].f1)).setCell ⟨g8, 2, none⟩ (.string l[i].f2)).setCell ⟨g8, 3, none⟩ (.slice A3 l[i].f3.length c3)) = w8b at *; have B_g8 := n0_; have HB := n1_; have HQ := n2_; clear n0_ n1_ n2_; have hc_g8_0 : w8b.cell? ⟨g8, 0, none⟩ = some (.int .i64 l[i].f0) := (blk_cell B_g8.out 0).trans rfl; have hf_g8_0 := blk_frozen B_g8.out 0; have hc_g8_1 : w8b.cell? ⟨g8, 1, none⟩ = some (.int .i64 l[i].f1) := (blk_cell B_g8.out 1).trans rfl; have hf_g8_1 := blk_frozen B_g8.out 1; have hc_g8_2 : w8b.cell? ⟨g8, 2, none⟩ = some (.string l[i].f2) := (blk_cell B_g8.out 2).trans rfl; have hf_g8_2 := blk_frozen B_g8.out 2; have hc_g8_3 : w8b.cell? ⟨g8, 3, none⟩ = some (.slice A3 l[i].f3.length c3) := (blk_cell B_g8.out 3).trans rfl; have hf_g8_3 := blk_frozen B_g8.out 3; have b0 := (HQ.out.cell (World.block_lt_of_cell? _ _ b0)).trans b0; have b1 := (HQ.out.cell (World.block_lt_of_cell? _ _ b1)).trans b1; have b2 := (HQ.out.cell (World.block_lt_of_cell? _ _ b2)).trans b2; have b3 := (HQ.out.cell (World.block_lt_of_cell? _ _ b3)).trans b3) | ((with_reducible refine gate_dst (N := 9) rfl ?_); refine box_event ?hg (N := 9) ?hd (cs := #[.int .i64 0, .int .i64 0, .string (⟨#[]⟩ : ByteArray), .slice none 0 0]) (t := 32) ?hr ?_; (case hd => rfl); (case hg => rfl); (case hr => first | (go_simp; done) | (go_simp; rfl)); intro g9 hg w9 hbox hb; have GQ_g9 : wr.heap.size ≤ g9 := (by rw [hg]; exact (below_size (blL HQ.out))); have GE_g9 : w.heap.size ≤ g9 := (by rw [hg]; exact (below_size (blL HB.out))); have NE_g8_g9 : g8 ≠ g9 := (by rw [hg]; exact Nat.ne_of_lt (lL B_g8.out)); have NE_g9_g8 := NE_g8_g9.symm; have n0_ := Aside0.mk (bL B_g8.out hb); have nB_ := Aside0.mk (bbL HB.out hb); clear B_g8 HB; have B_g8 := n0_; have HB := nB_; clear n0_ nB_ ; have nQ_ := Aside0.mk (bbL HQ.out hb); clear HQ; have HQ := nQ_; clear nQ_; have B_g9 := Aside0.mk hbox; clear hb hbox hg; have hc_g8_0 : w9.cell? ⟨g8, 0, none⟩ = some (.int .i64 l[i].f0) := (blk_cell B_g8.out 0).trans rfl; have hf_g8_0 := blk_frozen B_g8.out 0; have hc_g8_1 : w9.cell? ⟨g8, 1, none⟩ = some (.int .i64 l[i].f1) := (blk_cell B_g8.out 1).trans rfl; have hf_g8_1 := blk_frozen B_g8.out 1; have hc_g8_2 : w9.cell? ⟨g8, 2, none⟩ = some (.string l[i].f2) := (blk_cell B_g8.out 2).trans rfl; have hf_g8_2 := blk_frozen B_g8.out 2; have hc_g8_3 : w9.cell? ⟨g8, 3, none⟩ = some (.slice A3 l[i].f3.length c3) := (blk_cell B_g8.out 3).trans rfl; have hf_g8_3 := blk_frozen B_g8.out 3; have hc_g9_0 : w9.cell? ⟨g9, 0, none⟩ = some (.int .i64 0) := (blk_cell B_g9.out 0).trans rfl; have hf_g9_0 := blk_frozen B_g9.out 0; have hc_g9_1 : w9.cell? ⟨g9, 1, none⟩ = some (.int .i64 0) := (blk_cell B_g9.out 1).trans rfl; have hf_g9_1 := blk_frozen B_g9.out 1; have hc_g9_2 : w9.cell? ⟨g9, 2, none⟩ = some (.string (⟨#[]⟩ : ByteArray)) := (blk_cell B_g9.out 2).trans rfl; have hf_g9_2 := blk_frozen B_g9.out 2; have hc_g9_3 : w9.cell? ⟨g9, 3, none⟩ = some (.slice none 0 0) := (blk_cell B_g9.out 3).trans rfl; have hf_g9_3 := blk_frozen B_g9.out 3) | ((with_reducible refine gate_dst (N := 27) rfl ?_); have n0_ := Aside0.mk (st4_put B_g9.out (.int .i64 l'[i].f0) (.int .i64 l'[i].f1) (.string l'[i].f2) (.slice A4 l'[i].f3.length c4)); have n1_ := Aside0.mk (st4_B HB.out GE_g9 (.int .i64 l'[i].f0) (.int .i64 l'[i].f1) (.string l'[i].f2) (.slice A4 l'[i].f3.length c4)); have n2_ := Aside0.mk (st4_B HQ.out GQ_g9 (.int .i64 l'[i].f0) (.int .i64 l'[i].f1) (.string l'[i].f2) (.slice A4 l'[i].f3.length c4)); have m_g8 := Aside0.mk (st4_far B_g8.out NE_g8_g9 (.int .i64 l'[i].f0) (.int .i64 l'[i].f1) (.string l'[i].f2) (.slice A4 l'[i].f3.length c4)); clear HB HQ B_g9 B_g8 hc_g8_0 hf_g8_0 hc_g8_1 hf_g8_1 hc_g8_2 hf_g8_2 hc_g8_3 hf_g8_3 hc_g9_0 hf_g9_0 hc_g9_1 hf_g9_1 hc_g9_2 hf_g9_2 hc_g9_3 hf_g9_3; generalize ((((w9.setCell ⟨g9, 0, none⟩ (.int .i64 l'[i].f0)).setCell ⟨g9, 1, none⟩ (.int .i64 l'[i].f1)).setCell ⟨g9, 2, none⟩ (.string l'[i].f2)).setCell ⟨g9, 3, none⟩ (.slice A4 l'[i].f3.length c4)) = w9b at *; have B_g9 := n0_; have HB := n1_; have HQ := n2_; clear n0_ n1_ n2_; have B_g8 := m_g8; clear m_g8; have hc_g8_0 : w9b.cell? ⟨g8, 0, none⟩ = some (.int .i64 l[i].f0) := (blk_cell B_g8.out 0).trans rfl; have hf_g8_0 := blk_frozen B_g8.out 0; have hc_g8_1 : w9b.cell? ⟨g8, 1, none⟩ = some (.int .i64 l[i].f1) := (blk_cell B_g8.out 1).trans rfl; have hf_g8_1 := blk_frozen B_g8.out 1; have hc_g8_2 : w9b.cell? ⟨g8, 2, none⟩ = some (.string l[i].f2) := (blk_cell B_g8.out 2).trans rfl; have hf_g8_2 := blk_frozen B_g8.out 2; have hc_g8_3 : w9b.cell? ⟨g8, 3, none⟩ = some (.slice A3 l[i].f3.length c3) := (blk_cell B_g8.out 3).trans rfl; have hf_g8_3 := blk_frozen B_g8.out 3; have hc_g9_0 : w9b.cell? ⟨g9, 0, none⟩ = some (.int .i64 l'[i].f0) := (blk_cell B_g9.out 0).trans rfl; have hf_g9_0 := blk_frozen B_g9.out 0; have hc_g9_1 : w9b.cell? ⟨g9, 1, none⟩ = some (.int .i64 l'[i].f1) := (blk_cell B_g9.out 1).trans rfl; have hf_g9_1 := blk_frozen B_g9.out 1; have hc_g9_2 : w9b.cell? ⟨g9, 2, none⟩ = some (.string l'[i].f2) := (blk_cell B_g9.out 2).trans rfl; have hf_g9_2 := blk_frozen B_g9.out 2; have hc_g9_3 : w9b.cell? ⟨g9, 3, none⟩ = some (.slice A4 l'[i].f3.length c4) := (blk_cell B_g9.out 3).trans rfl; have hf_g9_3 := blk_frozen B_g9.out 3) | ((with_reducible refine gate_dst (N := 29) rfl ?_); refine goesT_ (some 29) rfl rfl (f := 25) Tryd.func25 (by kernel_rfl) rfl #[.agg #[.int .i64 l[i].f0, .int .i64 l[i].f1, .string l[i].f2, .slice A3 l[i].f3.length c3], .agg #[.int .i64 l'[i].f0, .int .i64 l'[i].f1, .string l'[i].f2, .slice A4 l'[i].f3.length c4]] rfl rfl (by (try simp only [List.map_toArray, List.map_cons, List.map_nil]); first | done | rfl) ?_; (with_reducible refine (IHi.out _ _ _ _ _ (Kd.C_below HR3.out HQ.out) HC3.out (Kd.C_below HR4.out HQ.out) HC4.out).mono ?_); rintro e w10 ⟨rfl, hb⟩; rw [cmp_eta, ← HV.out]; refine ⟨_, rfl, ?_⟩; have n0_ := Aside0.mk (bL B_g8.out hb); have n1_ := Aside0.mk (bL B_g9.out hb); have nB_ := Aside0.mk (bbL HB.out hb); clear B_g8 B_g9 HB; have B_g8 := n0_; have B_g9 := n1_; have HB := nB_; clear n0_ n1_ nB_ ; have nQ_ := Aside0.mk (bbL HQ.out hb); clear HQ; have HQ := nQ_; clear nQ_; clear hb))
          go_ret
          exact ⟨by rw [hR.out]; rfl, (by repeat (first | (with_reducible first | exact HB.out | apply below_alloc | apply pw_below_drewN | apply below_drew1 | apply below_drew) | exact HB.out))⟩
end Go.Proofs.YtcmphojichgfeaaDoor.QC
