/- The codec seat: the reference: the order; values of the program made values of the reference. Printed by a program of this seat out of the translation. -/
import Derived.Test.YtcmphojichgfeaaDoorCT
namespace Go.Proofs.YtcmphojichgfeaaDoor.QC
open Go.RowKit Go.Proofs.YtcmphojichgfeaaDoorW.PrintWords Go.Proofs.YtcmphojichgfeaaDoorW.PrintLast Go.Proofs.YtcmphojichgfeaaDoorW.PrintMore
attribute [local go_sem] max2_int min2_int max_two min_two max_three min_three max_four min_four
set_option linter.unusedVariables false
set_option linter.unusedSimpArgs false

/-! ### gangsawref02_sign: function 40 -/
def gangsawref02_sign.f (a0 : Bool) : Option (Int) := if a0 = true then (some (-1)) else (some 1)
set_option maxHeartbeats 8000000 in
set_option maxRecDepth 100000 in
theorem gangsawref02_sign.calls (a0 : Bool) (r : Int) (w : World) (h : gangsawref02_sign.f a0 = some r) :
    Calls Tryd.prog 40 #[.bool a0] w fun e w' => e = .returned (.int .i64 r) ∧ Drawn0 w w' := by
  have H : (if a0 = true then (some (-1)) else (some 1)) = some r := h
  clear h
  by_cases c2 : a0 = true
  · subst c2
    have H1 : (some (-1)) = some r := by rw [if_pos rfl] at H; exact H
    clear H
    have H := H1
    clear H1
    obtain rfl := Option.some.inj H
    go_enter Tryd.func40, Tryd.ntmps40
    go_wp2
    go_ret
    exact ⟨by first | rfl | (simp; done) | (simp [*]; done), by repeat (first | exact Drawn0.refl _ | apply Drawn0.step)⟩
  · replace c2 := Bool.eq_false_iff.mpr c2
    subst c2
    have H1 : (some 1) = some r := by rw [if_neg (show ¬ (false = true) by decide)] at H; exact H
    clear H
    have H := H1
    clear H1
    obtain rfl := Option.some.inj H
    go_enter Tryd.func40, Tryd.ntmps40
    go_wp2
    go_ret
    exact ⟨by first | rfl | (simp; done) | (simp [*]; done), by repeat (first | exact Drawn0.refl _ | apply Drawn0.step)⟩

/-! ### gangsawref02_Compare: function 22 -/
mutual
def gangsawref02_Compare.l0 : Nat → Int → Int → Int → ByteArray → List (S24) → Int → Int → ByteArray → List (S24) → Option (Int)
  | 0, _, _, _, _, _, _, _, _, _ => none
  | k + 1, x5, x234000, x234001, x234002, x234003, x235000, x235001, x235002, x235003 => if x5 < (x234003.length : Int) then (gangsawref02_Compare.j1 k x5 (decide (x5 < (x235003.length : Int))) x234000 x234001 x234002 x234003 x235000 x235001 x235002 x235003) else (gangsawref02_Compare.j1 k x5 false x234000 x234001 x234002 x234003 x235000 x235001 x235002 x235003)
def gangsawref02_Compare.j1 : Nat → Int → Bool → Int → Int → ByteArray → List (S24) → Int → Int → ByteArray → List (S24) → Option (Int)
  | 0, _, _, _, _, _, _, _, _, _, _ => none
  | k + 1, x5, x54, x234000, x234001, x234002, x234003, x235000, x235001, x235002, x235003 => if x54 = true then (if 0 ≤ x5 then (if x5 < (x234003.length : Int) then (if x5 < (x235003.length : Int) then ((gangsawref02_Compare.f k ((rd_T24 x234003 x5).f0) ((rd_T24 x234003 x5).f1) ((rd_T24 x234003 x5).f2) ((rd_T24 x234003 x5).f3) ((rd_T24 x235003 x5).f0) ((rd_T24 x235003 x5).f1) ((rd_T24 x235003 x5).f2) ((rd_T24 x235003 x5).f3)).bind fun t240 => (if t240 = 0 then (gangsawref02_Compare.l0 k (wrap64 (x5 + 1)) x234000 x234001 x234002 x234003 x235000 x235001 x235002 x235003) else (some t240))) else (none)) else (none)) else (none)) else (if (x234003.length : Int) = (x235003.length : Int) then (some 0) else ((gangsawref02_sign.f (decide ((x234003.length : Int) < (x235003.length : Int)))).bind fun t241 => (some t241)))
def gangsawref02_Compare.f : Nat → Int → Int → ByteArray → List (S24) → Int → Int → ByteArray → List (S24) → Option (Int)
  | 0, _, _, _, _, _, _, _, _ => none
  | k + 1, a0_0, a0_1, a0_2, l0_3, a1_0, a1_1, a1_2, l1_3 => if a0_0 = a1_0 then (if a0_1 = a1_1 then (if a0_2.toList = a1_2.toList then (gangsawref02_Compare.l0 k 0 a0_0 a0_1 a0_2 l0_3 a1_0 a1_1 a1_2 l1_3) else ((gangsawref02_sign.f (Op.bytesLess a0_2.toList a1_2.toList)).bind fun t235 => (some t235))) else ((gangsawref02_sign.f (decide (a0_1 < a1_1))).bind fun t236 => (some t236))) else ((gangsawref02_sign.f (decide (a0_0 < a1_0))).bind fun t237 => (some t237))
end
theorem gangsawref02_Compare.mono_l : ∀ k, (∀ y0 y1 y2 y3 y4 y5 y6 y7, LeO (gangsawref02_Compare.f k y0 y1 y2 y3 y4 y5 y6 y7) (gangsawref02_Compare.f (k + 1) y0 y1 y2 y3 y4 y5 y6 y7)) ∧ (∀ y0 y1 y2 y3 y4 y5 y6 y7 y8, LeO (gangsawref02_Compare.l0 k y0 y1 y2 y3 y4 y5 y6 y7 y8) (gangsawref02_Compare.l0 (k + 1) y0 y1 y2 y3 y4 y5 y6 y7 y8)) ∧ (∀ y0 y1 y2 y3 y4 y5 y6 y7 y8 y9, LeO (gangsawref02_Compare.j1 k y0 y1 y2 y3 y4 y5 y6 y7 y8 y9) (gangsawref02_Compare.j1 (k + 1) y0 y1 y2 y3 y4 y5 y6 y7 y8 y9))
  | 0 => ⟨fun _ _ _ _ _ _ _ _ r h => by simp [gangsawref02_Compare.f] at h, fun _ _ _ _ _ _ _ _ _ r h => by simp [gangsawref02_Compare.l0] at h, fun _ _ _ _ _ _ _ _ _ _ r h => by simp [gangsawref02_Compare.j1] at h⟩
  | k + 1 => by
    obtain ⟨ih0, ih1, ih2⟩ := gangsawref02_Compare.mono_l k
    refine ⟨?_, ?_, ?_⟩
    · intro y0 y1 y2 y3 y4 y5 y6 y7
      unfold gangsawref02_Compare.f
      repeat' first
      | (with_reducible exact ih0 _ _ _ _ _ _ _ _)
      | (with_reducible exact ih1 _ _ _ _ _ _ _ _ _)
      | (with_reducible exact ih2 _ _ _ _ _ _ _ _ _ _)
      | (with_reducible exact LeO.refl _)
      | (with_reducible exact LeO.none _)
      | (with_reducible refine LeO.ite ?_ ?_)
      | (with_reducible refine LeO.bind ?_ (fun _ => ?_))
      | exact ih0 _ _ _ _ _ _ _ _
      | exact ih1 _ _ _ _ _ _ _ _ _
      | exact ih2 _ _ _ _ _ _ _ _ _ _
      | exact LeO.none _
      | refine LeO.ite ?_ ?_
      | refine LeO.bind ?_ (fun _ => ?_)
    · intro y0 y1 y2 y3 y4 y5 y6 y7 y8
      unfold gangsawref02_Compare.l0
      repeat' first
      | (with_reducible exact ih0 _ _ _ _ _ _ _ _)
      | (with_reducible exact ih1 _ _ _ _ _ _ _ _ _)
      | (with_reducible exact ih2 _ _ _ _ _ _ _ _ _ _)
      | (with_reducible exact LeO.refl _)
      | (with_reducible exact LeO.none _)
      | (with_reducible refine LeO.ite ?_ ?_)
      | (with_reducible refine LeO.bind ?_ (fun _ => ?_))
      | exact ih0 _ _ _ _ _ _ _ _
      | exact ih1 _ _ _ _ _ _ _ _ _
      | exact ih2 _ _ _ _ _ _ _ _ _ _
      | exact LeO.none _
      | refine LeO.ite ?_ ?_
      | refine LeO.bind ?_ (fun _ => ?_)
    · intro y0 y1 y2 y3 y4 y5 y6 y7 y8 y9
      unfold gangsawref02_Compare.j1
      repeat' first
      | (with_reducible exact ih0 _ _ _ _ _ _ _ _)
      | (with_reducible exact ih1 _ _ _ _ _ _ _ _ _)
      | (with_reducible exact ih2 _ _ _ _ _ _ _ _ _ _)
      | (with_reducible exact LeO.refl _)
      | (with_reducible exact LeO.none _)
      | (with_reducible refine LeO.ite ?_ ?_)
      | (with_reducible refine LeO.bind ?_ (fun _ => ?_))
      | exact ih0 _ _ _ _ _ _ _ _
      | exact ih1 _ _ _ _ _ _ _ _ _
      | exact ih2 _ _ _ _ _ _ _ _ _ _
      | exact LeO.none _
      | refine LeO.ite ?_ ?_
      | refine LeO.bind ?_ (fun _ => ?_)
theorem gangsawref02_Compare.mono : ∀ a0 a1 a2 a3 a4 a5 a6 a7 k, LeO (gangsawref02_Compare.f k a0 a1 a2 a3 a4 a5 a6 a7) (gangsawref02_Compare.f (k + 1) a0 a1 a2 a3 a4 a5 a6 a7) := by
  intro a0 a1 a2 a3 a4 a5 a6 a7 k
  obtain ⟨ih0, ih1, ih2⟩ := gangsawref02_Compare.mono_l k
  exact ih0 a0 a1 a2 a3 a4 a5 a6 a7
def gangsawref02_Compare.T10 : Bool × List (List Nat × List Nat) := (true, [([], []), ([0], [0]), ([], []), ([1, 2], [1, 2]), ([3], [3]), ([], []), ([5], [5]), ([], []), ([6, 7], [6, 7]), ([8], [8]), ([4, 9], [4, 9]), ([10, 10, 0, 1, 2, 3, 4, 5, 6, 7, 8, 9, 10], [10])])
def gangsawref02_Compare.B10 : List Nat := [0, 1, 0, 7, 15, 0, 32, 0, 224, 480, 1023, 2047]
theorem gangsawref02_Compare.tab10 : rtab .any (opsOf Tryd.f22 10) = gangsawref02_Compare.T10 := by kernel_rfl
theorem gangsawref02_Compare.bits10 : waitsOk gangsawref02_Compare.T10.2 gangsawref02_Compare.B10 = true := by kernel_rfl
set_option maxHeartbeats 8000000 in
set_option maxRecDepth 100000 in
theorem gangsawref02_Compare.calls (k : Nat) : ∀ (a0_0 : Int) (a0_1 : Int) (a0_2 : ByteArray) (A0_3 : Option Addr) (c0_3 : Nat) (l0_3 : List (S24)) (a1_0 : Int) (a1_1 : Int) (a1_2 : ByteArray) (A1_3 : Option Addr) (c1_3 : Nat) (l1_3 : List (S24)) (r : Int) (w : World) (hr0_3 : Kd.C k24 w A0_3 l0_3.length l0_3) (hc0_3 : l0_3.length ≤ c0_3) (hr1_3 : Kd.C k24 w A1_3 l1_3.length l1_3) (hc1_3 : l1_3.length ≤ c1_3) (h : gangsawref02_Compare.f k a0_0 a0_1 a0_2 l0_3 a1_0 a1_1 a1_2 l1_3 = some r),
    Calls Tryd.prog 22 #[.agg #[.int .i64 a0_0, .int .i64 a0_1, .string a0_2, .slice A0_3 l0_3.length c0_3], .agg #[.int .i64 a1_0, .int .i64 a1_1, .string a1_2, .slice A1_3 l1_3.length c1_3]] w fun e w' => e = .returned (.int .i64 r) ∧ Below w.heap.size w w' := by
  induction k using Nat.strongRecOn with
  | _ k ih =>
  intro a0_0 a0_1 a0_2 A0_3 c0_3 l0_3 a1_0 a1_1 a1_2 A1_3 c1_3 l1_3 r w hr0_3 hc0_3 hr1_3 hc1_3 h
  cases k with
  | zero => exact absurd h (by simp [gangsawref02_Compare.f])
  | succ k =>
  simp only [gangsawref02_Compare.f] at h
  have hu24 := Tryd.underlying24
  have HR0_3 := Aside0.mk hr0_3
  have HC0_3 := Aside0.mk hc0_3
  clear hr0_3 hc0_3
  have HR1_3 := Aside0.mk hr1_3
  have HC1_3 := Aside0.mk hc1_3
  clear hr1_3 hc1_3
  have HB := Aside0.mk (Below.refl w.heap.size w)
  have H : (if a0_0 = a1_0 then (if a0_1 = a1_1 then (if a0_2.toList = a1_2.toList then (gangsawref02_Compare.l0 k 0 a0_0 a0_1 a0_2 l0_3 a1_0 a1_1 a1_2 l1_3) else ((gangsawref02_sign.f (Op.bytesLess a0_2.toList a1_2.toList)).bind fun t235 => (some t235))) else ((gangsawref02_sign.f (decide (a0_1 < a1_1))).bind fun t236 => (some t236))) else ((gangsawref02_sign.f (decide (a0_0 < a1_0))).bind fun t237 => (some t237))) = some r := h
  clear h
  by_cases c3 : a0_0 = a1_0
  · rw [if_pos c3] at H
    have c3b0 : (a0_0 == a1_0) = true := beq_iff_eq.mpr c3
    have c3b1 : (a0_0 != a1_0) = false := bne_eq_false_iff_eq.mpr c3
    clear c3
    by_cases c4 : a0_1 = a1_1
    · rw [if_pos c4] at H
      have c4b0 : (a0_1 == a1_1) = true := beq_iff_eq.mpr c4
      have c4b1 : (a0_1 != a1_1) = false := bne_eq_false_iff_eq.mpr c4
      clear c4
      by_cases c5 : a0_2.toList = a1_2.toList
      · rw [if_pos c5] at H
        have c5b0 : (a0_2.toList == a1_2.toList) = true := beq_iff_eq.mpr c5
        have c5b1 : (a0_2.toList != a1_2.toList) = false := bne_eq_false_iff_eq.mpr c5
        clear c5
        have H' := Aside0.mk H
        clear H
        go_enter Tryd.func22, Tryd.ntmps22
        go_wp2_with (first | ((with_reducible refine gate_dst (N := 2) rfl ?_); (try (refine gate_guard (by rfl) ?_; dsimp only)); refine box_event ?hg (N := 2) ?hd (cs := #[.int .i64 a0_0, .int .i64 a0_1, .string a0_2, .slice A0_3 l0_3.length c0_3]) (t := 24) ?hr ?_; (case hd => rfl); (case hg => rfl); (case hr => first | (go_simp; done) | (go_simp; rfl)); intro gb233 hg w6 hbox hb; have n0_ := Aside0.mk (below_step (by repeat (first | (with_reducible first | exact HB.out | apply below_alloc | apply pw_below_drewN | apply below_drew1) | exact HB.out)) hb); have n1_ := Aside0.mk (hbox); have n2_ := Aside0.mk ((by rw [hg]; exact (below_size (by repeat (first | (with_reducible first | exact HB.out | apply below_alloc | apply pw_below_drewN | apply below_drew1) | exact HB.out))) : w.heap.size ≤ gb233)); have n3_ := Aside0.mk ((by rw [hg]; exact (below_size (by repeat (first | (with_reducible first | exact HB.out | apply below_alloc | apply pw_below_drewN | apply below_drew1) | exact HB.out))) : w.heap.size ≤ gb233)); clear HB; have HB := n0_; have BK233 := n1_; have GW233 := n2_; have GE233 := n3_; clear n0_ n1_ n2_ n3_; clear hb hbox hg) | ((with_reducible refine gate_dst (N := 3) rfl ?_); (try (refine gate_guard (by rfl) ?_; dsimp only)); refine box_event ?hg (N := 3) ?hd (cs := #[.int .i64 a1_0, .int .i64 a1_1, .string a1_2, .slice A1_3 l1_3.length c1_3]) (t := 24) ?hr ?_; (case hd => rfl); (case hg => rfl); (case hr => first | (go_simp; done) | (go_simp; rfl)); intro gb234 hg w7 hbox hb; have n0_ := Aside0.mk (blk_below (g := gb233) (o := .cells #[.int .i64 a0_0, .int .i64 a0_1, .string a0_2, .slice A0_3 l0_3.length c0_3] 24 (0, 0)) (by (with_reducible repeat (first | refine blk_drewN ?_ _ | refine blk_drew ?_ | refine blk_alloc ?_ _)); exact BK233.out) hb); have n1_ := Aside0.mk (below_step (by repeat (first | (with_reducible first | exact HB.out | apply below_alloc | apply pw_below_drewN | apply below_drew1 | refine below_set ?_ GE233.out) | exact HB.out)) hb); have n2_ := Aside0.mk (hbox); have n3_ := Aside0.mk ((by rw [hg]; exact (below_size (by repeat (first | (with_reducible first | exact HB.out | apply below_alloc | apply pw_below_drewN | apply below_drew1 | refine below_set ?_ GE233.out) | exact HB.out))) : w.heap.size ≤ gb234)); have n4_ := Aside0.mk ((by rw [hg]; exact (below_size (by repeat (first | (with_reducible first | exact HB.out | apply below_alloc | apply pw_below_drewN | apply below_drew1 | refine below_set ?_ GE233.out) | exact HB.out))) : w.heap.size ≤ gb234)); have n5_ := Aside0.mk ((by rw [hg]; exact Nat.ne_of_lt (blk_lt (g := gb233) (o := .cells #[.int .i64 a0_0, .int .i64 a0_1, .string a0_2, .slice A0_3 l0_3.length c0_3] 24 (0, 0)) (by (with_reducible repeat (first | refine blk_drewN ?_ _ | refine blk_drew ?_ | refine blk_alloc ?_ _)); exact BK233.out)) : gb233 ≠ gb234)); have n6_ := Aside0.mk ((by rw [hg]; exact Nat.ne_of_gt (blk_lt (g := gb233) (o := .cells #[.int .i64 a0_0, .int .i64 a0_1, .string a0_2, .slice A0_3 l0_3.length c0_3] 24 (0, 0)) (by (with_reducible repeat (first | refine blk_drewN ?_ _ | refine blk_drew ?_ | refine blk_alloc ?_ _)); exact BK233.out)) : gb234 ≠ gb233)); clear BK233; clear HB; have BK233 := n0_; have HB := n1_; have BK234 := n2_; have GW234 := n3_; have GE234 := n4_; have NB233_234 := n5_; have NB234_233 := n6_; clear n0_ n1_ n2_ n3_ n4_ n5_ n6_; clear hb hbox hg; have hnb8 := NB233_234.out; have hnc8 := NB234_233.out; have hcz9_0 : w7.cell? ⟨gb233, 0, none⟩ = some (.int .i64 a0_0) := (blk_cell BK233.out 0).trans rfl; have hcz9_1 : w7.cell? ⟨gb233, 1, none⟩ = some (.int .i64 a0_1) := (blk_cell BK233.out 1).trans rfl; have hcz9_2 : w7.cell? ⟨gb233, 2, none⟩ = some (.string a0_2) := (blk_cell BK233.out 2).trans rfl; have hcz9_3 : w7.cell? ⟨gb233, 3, none⟩ = some (.slice A0_3 l0_3.length c0_3) := (blk_cell BK233.out 3).trans rfl; have hfz9_0 := blk_frozen BK233.out 0; have hfz9_1 := blk_frozen BK233.out 1; have hfz9_2 := blk_frozen BK233.out 2; have hfz9_3 := blk_frozen BK233.out 3; have hcz10_0 : w7.cell? ⟨gb234, 0, none⟩ = some (.int .i64 a1_0) := (blk_cell BK234.out 0).trans rfl; have hcz10_1 : w7.cell? ⟨gb234, 1, none⟩ = some (.int .i64 a1_1) := (blk_cell BK234.out 1).trans rfl; have hcz10_2 : w7.cell? ⟨gb234, 2, none⟩ = some (.string a1_2) := (blk_cell BK234.out 2).trans rfl; have hcz10_3 : w7.cell? ⟨gb234, 3, none⟩ = some (.slice A1_3 l1_3.length c1_3) := (blk_cell BK234.out 3).trans rfl; have hfz10_0 := blk_frozen BK234.out 0; have hfz10_1 := blk_frozen BK234.out 1; have hfz10_2 := blk_frozen BK234.out 2; have hfz10_3 := blk_frozen BK234.out 3))
        go_loopg [5] k (fun kq v5 w' => ∃ (x5_1 : Int), v5 = .int .i64 x5_1 ∧ Aside0 (gangsawref02_Compare.l0 kq x5_1 a0_0 a0_1 a0_2 l0_3 a1_0 a1_1 a1_2 l1_3 = some r) ∧ Aside0 (kq ≤ k) ∧ Aside0 (w'.heap[gb233]? = some (.cells #[.int .i64 a0_0, .int .i64 a0_1, .string a0_2, (.slice A0_3 l0_3.length c0_3)] 24 (0, 0))) ∧ Aside0 (w'.heap[gb234]? = some (.cells #[.int .i64 a1_0, .int .i64 a1_1, .string a1_2, (.slice A1_3 l1_3.length c1_3)] 24 (0, 0))) ∧ Aside0 (Below w.heap.size w w'))
        case atStart => exact ⟨(0), (by first | rfl | (simp; done) | (simp [*]; done)), H', ⟨Nat.le_refl _⟩, ⟨by (with_reducible repeat (first | refine blk_drewN ?_ _ | refine blk_drew ?_ | refine blk_alloc ?_ _)); exact BK233.out⟩, ⟨by (with_reducible repeat (first | refine blk_drewN ?_ _ | refine blk_drew ?_ | refine blk_alloc ?_ _)); exact BK234.out⟩, ⟨by repeat (first | (with_reducible first | exact HB.out | apply below_alloc | apply pw_below_drewN | apply below_drew1 | refine below_set ?_ GE233.out | refine below_set ?_ GE234.out) | exact HB.out)⟩⟩
        case round =>
          clear H'
          try clear c1
          try clear c2
          try clear p2
          try clear c3
          try clear c3b0
          try clear c3b1
          try clear c4
          try clear c4b0
          try clear c4b1
          try clear c5
          try clear c5b0
          try clear c5b1
          try clear c8
          try clear hcz10_0
          try clear hcz10_1
          try clear hcz10_2
          try clear hcz10_3
          try clear hcz9_0
          try clear hcz9_1
          try clear hcz9_2
          try clear hcz9_3
          try clear hfz10_0
          try clear hfz10_1
          try clear hfz10_2
          try clear hfz10_3
          try clear hfz9_0
          try clear hfz9_1
          try clear hfz9_2
          try clear hfz9_3
          obtain ⟨x5_1, rfl, HA, HK1, BK233, BK234, HB⟩ := hrel
          cases gk with
          | zero => exact absurd HA.out (by simp [gangsawref02_Compare.l0])
          | succ k1 =>
            have H := HA.out
            clear HA
            simp only [gangsawref02_Compare.l0] at H
            have HC11 := Aside0.mk H
            clear H
            go_upto_region 8 with (fail)
            go_cut [54] (fun v54 wc => ∃ (kq : Nat) (x54_10 : Bool), v54 = .bool x54_10 ∧ Aside0 (gangsawref02_Compare.j1 kq x5_1 x54_10 a0_0 a0_1 a0_2 l0_3 a1_0 a1_1 a1_2 l1_3 = some r) ∧ Aside0 (kq ≤ k1) ∧ Aside0 (wc.heap[gb233]? = some (.cells #[.int .i64 a0_0, .int .i64 a0_1, .string a0_2, (.slice A0_3 l0_3.length c0_3)] 24 (0, 0))) ∧ Aside0 (wc.heap[gb234]? = some (.cells #[.int .i64 a1_0, .int .i64 a1_1, .string a1_2, (.slice A1_3 l1_3.length c1_3)] 24 (0, 0))) ∧ Aside0 (Below w.heap.size w wc))
            case first =>
              have H := HC11.out
              clear HC11
              by_cases c12 : x5_1 < (l0_3.length : Int)
              · rw [if_pos c12] at H
                have c12b0 : decide (x5_1 < (l0_3.length : Int)) = true := decide_eq_true c12
                clear c12
                (first | rw [c12b0] | (simp only [i64_w, i32_w]; rw [c12b0]) | skip)
                have H' := Aside0.mk H
                clear H
                have hnb13 := NB233_234.out
                have hnc13 := NB234_233.out
                have hcz14_0 : wr.cell? ⟨gb233, 0, none⟩ = some (.int .i64 a0_0) := (blk_cell BK233.out 0).trans rfl
                have hcz14_1 : wr.cell? ⟨gb233, 1, none⟩ = some (.int .i64 a0_1) := (blk_cell BK233.out 1).trans rfl
                have hcz14_2 : wr.cell? ⟨gb233, 2, none⟩ = some (.string a0_2) := (blk_cell BK233.out 2).trans rfl
                have hcz14_3 : wr.cell? ⟨gb233, 3, none⟩ = some (.slice A0_3 l0_3.length c0_3) := (blk_cell BK233.out 3).trans rfl
                have hfz14_0 := blk_frozen BK233.out 0
                have hfz14_1 := blk_frozen BK233.out 1
                have hfz14_2 := blk_frozen BK233.out 2
                have hfz14_3 := blk_frozen BK233.out 3
                have hcz15_0 : wr.cell? ⟨gb234, 0, none⟩ = some (.int .i64 a1_0) := (blk_cell BK234.out 0).trans rfl
                have hcz15_1 : wr.cell? ⟨gb234, 1, none⟩ = some (.int .i64 a1_1) := (blk_cell BK234.out 1).trans rfl
                have hcz15_2 : wr.cell? ⟨gb234, 2, none⟩ = some (.string a1_2) := (blk_cell BK234.out 2).trans rfl
                have hcz15_3 : wr.cell? ⟨gb234, 3, none⟩ = some (.slice A1_3 l1_3.length c1_3) := (blk_cell BK234.out 3).trans rfl
                have hfz15_0 := blk_frozen BK234.out 0
                have hfz15_1 := blk_frozen BK234.out 1
                have hfz15_2 := blk_frozen BK234.out 2
                have hfz15_3 := blk_frozen BK234.out 3
                go_wp2
                go_meet
                case rel => exact ⟨_, (decide (x5_1 < (l1_3.length : Int))), (by first | rfl | (simp; done) | (simp [*]; done)), H', ⟨by have := HK1.out; first | omega | exact Nat.le_refl _⟩, ⟨by (with_reducible repeat (first | refine blk_drewN ?_ _ | refine blk_drew ?_ | refine blk_alloc ?_ _)); exact BK233.out⟩, ⟨by (with_reducible repeat (first | refine blk_drewN ?_ _ | refine blk_drew ?_ | refine blk_alloc ?_ _)); exact BK234.out⟩, ⟨by repeat (first | (with_reducible first | exact HB.out | apply below_alloc | apply pw_below_drewN | apply below_drew1 | refine below_set ?_ GE233.out | refine below_set ?_ GE234.out) | exact HB.out)⟩⟩
              · rw [if_neg c12] at H
                have c12b0 : decide (x5_1 < (l0_3.length : Int)) = false := decide_eq_false c12
                clear c12
                (first | rw [c12b0] | (simp only [i64_w, i32_w]; rw [c12b0]) | skip)
                have H' := Aside0.mk H
                clear H
                have hnb16 := NB233_234.out
                have hnc16 := NB234_233.out
                have hcz17_0 : wr.cell? ⟨gb233, 0, none⟩ = some (.int .i64 a0_0) := (blk_cell BK233.out 0).trans rfl
                have hcz17_1 : wr.cell? ⟨gb233, 1, none⟩ = some (.int .i64 a0_1) := (blk_cell BK233.out 1).trans rfl
                have hcz17_2 : wr.cell? ⟨gb233, 2, none⟩ = some (.string a0_2) := (blk_cell BK233.out 2).trans rfl
                have hcz17_3 : wr.cell? ⟨gb233, 3, none⟩ = some (.slice A0_3 l0_3.length c0_3) := (blk_cell BK233.out 3).trans rfl
                have hfz17_0 := blk_frozen BK233.out 0
                have hfz17_1 := blk_frozen BK233.out 1
                have hfz17_2 := blk_frozen BK233.out 2
                have hfz17_3 := blk_frozen BK233.out 3
                go_wp2
                go_meet
                case rel => exact ⟨_, (false), (by first | rfl | (simp; done) | (simp [*]; done)), H', ⟨by have := HK1.out; first | omega | exact Nat.le_refl _⟩, ⟨by (with_reducible repeat (first | refine blk_drewN ?_ _ | refine blk_drew ?_ | refine blk_alloc ?_ _)); exact BK233.out⟩, ⟨by (with_reducible repeat (first | refine blk_drewN ?_ _ | refine blk_drew ?_ | refine blk_alloc ?_ _)); exact BK234.out⟩, ⟨by repeat (first | (with_reducible first | exact HB.out | apply below_alloc | apply pw_below_drewN | apply below_drew1 | refine below_set ?_ GE233.out | refine below_set ?_ GE234.out) | exact HB.out)⟩⟩
            case rest =>
              clear HC11
              try clear c1
              try clear c2
              try clear p2
              try clear c3
              try clear c3b0
              try clear c3b1
              try clear c4
              try clear c4b0
              try clear c4b1
              try clear c5
              try clear c5b0
              try clear c5b1
              try clear c8
              try clear c12
              try clear c12b0
              try clear c13
              try clear c16
              try clear hcz10_0
              try clear hcz10_1
              try clear hcz10_2
              try clear hcz10_3
              try clear hcz14_0
              try clear hcz14_1
              try clear hcz14_2
              try clear hcz14_3
              try clear hcz15_0
              try clear hcz15_1
              try clear hcz15_2
              try clear hcz15_3
              try clear hcz17_0
              try clear hcz17_1
              try clear hcz17_2
              try clear hcz17_3
              try clear hcz9_0
              try clear hcz9_1
              try clear hcz9_2
              try clear hcz9_3
              try clear hfz10_0
              try clear hfz10_1
              try clear hfz10_2
              try clear hfz10_3
              try clear hfz14_0
              try clear hfz14_1
              try clear hfz14_2
              try clear hfz14_3
              try clear hfz15_0
              try clear hfz15_1
              try clear hfz15_2
              try clear hfz15_3
              try clear hfz17_0
              try clear hfz17_1
              try clear hfz17_2
              try clear hfz17_3
              try clear hfz9_0
              try clear hfz9_1
              try clear hfz9_2
              try clear hfz9_3
              try clear p2
              obtain ⟨kq, x54_10, rfl, HA, HJ10, BK233, BK234, HB⟩ := hcut
              cases kq with
              | zero => exact absurd HA.out (by simp [gangsawref02_Compare.j1])
              | succ kj10 =>
                have H := HA.out
                clear HA
                simp only [gangsawref02_Compare.j1] at H
                by_cases c18 : x54_10 = true
                · subst c18
                  have H1 : (if 0 ≤ x5_1 then (if x5_1 < (l0_3.length : Int) then (if x5_1 < (l1_3.length : Int) then ((gangsawref02_Compare.f kj10 ((rd_T24 l0_3 x5_1).f0) ((rd_T24 l0_3 x5_1).f1) ((rd_T24 l0_3 x5_1).f2) ((rd_T24 l0_3 x5_1).f3) ((rd_T24 l1_3 x5_1).f0) ((rd_T24 l1_3 x5_1).f1) ((rd_T24 l1_3 x5_1).f2) ((rd_T24 l1_3 x5_1).f3)).bind fun t240 => (if t240 = 0 then (gangsawref02_Compare.l0 kj10 (wrap64 (x5_1 + 1)) a0_0 a0_1 a0_2 l0_3 a1_0 a1_1 a1_2 l1_3) else (some t240))) else (none)) else (none)) else (none)) = some r := by rw [if_pos rfl] at H; exact H
                  clear H
                  have H := H1
                  clear H1
                  by_cases c19 : 0 ≤ x5_1
                  · rw [if_pos c19] at H
                    have c19b0 : decide (0 ≤ x5_1) = true := decide_eq_true c19
                    clear c19
                    by_cases c20 : x5_1 < (l0_3.length : Int)
                    · rw [if_pos c20] at H
                      have c20b0 : decide (x5_1 < (l0_3.length : Int)) = true := decide_eq_true c20
                      clear c20
                      by_cases c21 : x5_1 < (l1_3.length : Int)
                      · rw [if_pos c21] at H
                        have c21b0 : decide (x5_1 < (l1_3.length : Int)) = true := decide_eq_true c21
                        clear c21
                        replace H := Option.bind_eq_some_iff.mp H
                        obtain ⟨t240, A220, H⟩ := H
                        replace H : (if t240 = 0 then (gangsawref02_Compare.l0 kj10 (wrap64 (x5_1 + 1)) a0_0 a0_1 a0_2 l0_3 a1_0 a1_1 a1_2 l1_3) else (some t240)) = some r := H
                        have A22 := Aside0.mk A220
                        clear A220
                        by_cases c23 : t240 = 0
                        · rw [if_pos c23] at H
                          have c23b0 : (t240 == 0) = true := beq_iff_eq.mpr c23
                          have c23b1 : (t240 != 0) = false := bne_eq_false_iff_eq.mpr c23
                          clear c23
                          have H' := Aside0.mk H
                          clear H
                          try go_wp2
                          have n0_ := Aside0.mk (blk_drew BK233.out)
                          have n1_ := Aside0.mk (blk_drew BK234.out)
                          have n2_ := Aside0.mk (below_drew1 HB.out)
                          clear BK233
                          clear BK234
                          clear HB
                          have BK233 := n0_
                          have BK234 := n1_
                          have HB := n2_
                          clear n0_ n1_ n2_
                          have p238 : 0 ≤ (x5_1 : Int) := of_decide_eq_true (by first | (with_reducible assumption) | assumption)
                          have q238 : x5_1 < (l0_3.length : Int) := of_decide_eq_true (by first | (with_reducible assumption) | assumption)
                          obtain ⟨ad238, A238_3, c238_3, e238, hx238_0, hx238_1, hx238_2, hx238_3, hl238_3, hi238_3⟩ := at_T24 HR0_3.out x5_1 p238 q238
                          have hw238_3 := hx238_3
                          have hw238_2 := hx238_2
                          have hw238_1 := hx238_1
                          have hw238_0 := hx238_0
                          cases e238
                          replace hx238_0 := (HB.out.cell (World.block_lt_of_cell? w _ hx238_0)).trans hx238_0
                          replace hx238_1 := (HB.out.cell (World.block_lt_of_cell? w _ hx238_1)).trans hx238_1
                          replace hx238_2 := (HB.out.cell (World.block_lt_of_cell? w _ hx238_2)).trans hx238_2
                          replace hx238_3 := (HB.out.cell (World.block_lt_of_cell? w _ hx238_3)).trans hx238_3
                          have HR238_3 := Aside0.mk hi238_3
                          have HC238_3 := Aside0.mk hl238_3
                          clear hi238_3 hl238_3
                          replace p238 := eq_true p238
                          replace q238 := eq_true q238
                          have p239 : 0 ≤ (x5_1 : Int) := of_decide_eq_true (by first | (with_reducible assumption) | assumption)
                          have q239 : x5_1 < (l1_3.length : Int) := of_decide_eq_true (by first | (with_reducible assumption) | assumption)
                          obtain ⟨ad239, A239_3, c239_3, e239, hx239_0, hx239_1, hx239_2, hx239_3, hl239_3, hi239_3⟩ := at_T24 HR1_3.out x5_1 p239 q239
                          have hw239_3 := hx239_3
                          have hw239_2 := hx239_2
                          have hw239_1 := hx239_1
                          have hw239_0 := hx239_0
                          cases e239
                          replace hx239_0 := (HB.out.cell (World.block_lt_of_cell? w _ hx239_0)).trans hx239_0
                          replace hx239_1 := (HB.out.cell (World.block_lt_of_cell? w _ hx239_1)).trans hx239_1
                          replace hx239_2 := (HB.out.cell (World.block_lt_of_cell? w _ hx239_2)).trans hx239_2
                          replace hx239_3 := (HB.out.cell (World.block_lt_of_cell? w _ hx239_3)).trans hx239_3
                          have HR239_3 := Aside0.mk hi239_3
                          have HC239_3 := Aside0.mk hl239_3
                          clear hi239_3 hl239_3
                          replace p239 := eq_true p239
                          replace q239 := eq_true q239
                          refine start_ (n := 12) (S := fun w' => w'.cell? ⟨gb233, 0, none⟩ = some (.int .i64 a0_0) ∧ w'.cell? ⟨gb233, 1, none⟩ = some (.int .i64 a0_1) ∧ w'.cell? ⟨gb233, 2, none⟩ = some (.string a0_2) ∧ w'.cell? ⟨gb233, 3, none⟩ = some (.slice (some ad238) l0_3.length c0_3) ∧ w'.cell? ⟨gb234, 0, none⟩ = some (.int .i64 a1_0) ∧ w'.cell? ⟨gb234, 1, none⟩ = some (.int .i64 a1_1) ∧ w'.cell? ⟨gb234, 2, none⟩ = some (.string a1_2) ∧ w'.cell? ⟨gb234, 3, none⟩ = some (.slice (some ad239) l1_3.length c1_3) ∧ w'.cell? (ad238.add ((x5_1).toNat * 4)) = some (.int .i64 ((rd_T24 l0_3 x5_1).f0)) ∧ w'.cell? ⟨(ad238.add ((x5_1).toNat * 4)).block, (ad238.add ((x5_1).toNat * 4)).off + 1, none⟩ = some (.int .i64 ((rd_T24 l0_3 x5_1).f1)) ∧ w'.cell? ⟨(ad238.add ((x5_1).toNat * 4)).block, (ad238.add ((x5_1).toNat * 4)).off + 2, none⟩ = some (.string ((rd_T24 l0_3 x5_1).f2)) ∧ w'.cell? ⟨(ad238.add ((x5_1).toNat * 4)).block, (ad238.add ((x5_1).toNat * 4)).off + 3, none⟩ = some (.slice A238_3 ((rd_T24 l0_3 x5_1).f3).length c238_3) ∧ w'.cell? (ad239.add ((x5_1).toNat * 4)) = some (.int .i64 ((rd_T24 l1_3 x5_1).f0)) ∧ w'.cell? ⟨(ad239.add ((x5_1).toNat * 4)).block, (ad239.add ((x5_1).toNat * 4)).off + 1, none⟩ = some (.int .i64 ((rd_T24 l1_3 x5_1).f1)) ∧ w'.cell? ⟨(ad239.add ((x5_1).toNat * 4)).block, (ad239.add ((x5_1).toNat * 4)).off + 2, none⟩ = some (.string ((rd_T24 l1_3 x5_1).f2)) ∧ w'.cell? ⟨(ad239.add ((x5_1).toNat * 4)).block, (ad239.add ((x5_1).toNat * 4)).off + 3, none⟩ = some (.slice A239_3 ((rd_T24 l1_3 x5_1).f3).length c239_3)) (ds := []) #[false, false, false, false, false, false, false, false, false, false, false, false] (by kernel_rfl) rfl rfl ⟨(blk_cell BK233.out 0).trans rfl, (blk_cell BK233.out 1).trans rfl, (blk_cell BK233.out 2).trans rfl, (blk_cell BK233.out 3).trans rfl, (blk_cell BK234.out 0).trans rfl, (blk_cell BK234.out 1).trans rfl, (blk_cell BK234.out 2).trans rfl, (blk_cell BK234.out 3).trans rfl, ((HB.out.cell (World.block_lt_of_cell? w _ hw238_0)).trans hw238_0), ((HB.out.cell (World.block_lt_of_cell? w _ hw238_1)).trans hw238_1), ((HB.out.cell (World.block_lt_of_cell? w _ hw238_2)).trans hw238_2), ((HB.out.cell (World.block_lt_of_cell? w _ hw238_3)).trans hw238_3), ((HB.out.cell (World.block_lt_of_cell? w _ hw239_0)).trans hw239_0), ((HB.out.cell (World.block_lt_of_cell? w _ hw239_1)).trans hw239_1), ((HB.out.cell (World.block_lt_of_cell? w _ hw239_2)).trans hw239_2), ((HB.out.cell (World.block_lt_of_cell? w _ hw239_3)).trans hw239_3)⟩ (fun hHeld => ?_); refine with_tabW gangsawref02_Compare.tab10 gangsawref02_Compare.bits10 (fun HT_ HW_ => ?_)
                          generalize wc.drew = w24 at BK233 BK234 HB HR238_3 HR239_3 hx238_0 hx238_1 hx238_2 hx238_3 hx239_0 hx239_1 hx239_2 hx239_3 hHeld ⊢
                          refine pure_ (i := 0) (N := some 57) (v := ?_) (a' := ?_) #[true, false, false, false, false, false, false, false, false, false, false, false] rfl rfl (any_of HT_.out (by kernel_rfl)) (fun _ _ _ h => h) (Or.inl ⟨by rfl, ?_⟩) ?_ ?_
                          rotate_left
                          · intro w'
                            go_simp
                            with_reducible rfl
                          rotate_left
                          · simp only [Act.put, List.setIfInBounds_toArray, List.set_cons_zero, List.set_cons_succ, i64_w, i32_w]
                            rfl
                          refine pure_ (i := 2) (N := some 59) (v := ?_) (a' := ?_) #[true, false, true, false, false, false, false, false, false, false, false, false] rfl rfl (any_of HT_.out (by kernel_rfl)) (fun _ _ _ h => h) (Or.inl ⟨by rfl, ?_⟩) ?_ ?_
                          rotate_left
                          · intro w'
                            go_simp
                            with_reducible rfl
                          rotate_left
                          · simp only [Act.put, List.setIfInBounds_toArray, List.set_cons_zero, List.set_cons_succ, i64_w, i32_w]
                            rfl
                          refine pure_ (i := 5) (N := some 62) (v := ?_) (a' := ?_) #[true, false, true, false, false, true, false, false, false, false, false, false] rfl rfl (any_of HT_.out (by kernel_rfl)) (fun _ _ _ h => h) (Or.inl ⟨by rfl, ?_⟩) ?_ ?_
                          rotate_left
                          · intro w'
                            go_simp
                            with_reducible rfl
                          rotate_left
                          · simp only [Act.put, List.setIfInBounds_toArray, List.set_cons_zero, List.set_cons_succ, i64_w, i32_w]
                            rfl
                          refine pure_ (i := 7) (N := some 64) (v := ?_) (a' := ?_) #[true, false, true, false, false, true, false, true, false, false, false, false] rfl rfl (any_of HT_.out (by kernel_rfl)) (fun _ _ _ h => h) (Or.inl ⟨by rfl, ?_⟩) ?_ ?_
                          rotate_left
                          · intro w'
                            go_simp
                            with_reducible rfl
                          rotate_left
                          · simp only [Act.put, List.setIfInBounds_toArray, List.set_cons_zero, List.set_cons_succ, i64_w, i32_w]
                            rfl
                          refine take_ (i := 1) (N := some 58) (v := ?_) (a' := ?_) #[true, true, true, false, false, true, false, true, false, false, false, false] rfl rfl (take_ofW HT_.out HW_.out (by kernel_rfl)) (fun _ _ _ h => h) (Or.inl ⟨by rfl, ?_⟩) hHeld ?_ ?_
                          rotate_left
                          · rintro w' ⟨s0, s1, s2, s3, s4, s5, s6, s7, s8, s9, s10, s11, s12, s13, s14, s15⟩
                            go_simp
                            with_reducible rfl
                          rotate_left
                          · simp only [Act.put, List.setIfInBounds_toArray, List.set_cons_zero, List.set_cons_succ, i64_w, i32_w]
                            rfl
                          refine pure_ (i := 3) (N := some 60) (v := ?_) (a' := ?_) #[true, true, true, true, false, true, false, true, false, false, false, false] rfl rfl (any_of HT_.out (by kernel_rfl)) (fun _ _ _ h => h) (Or.inl ⟨by rfl, ?_⟩) ?_ ?_
                          rotate_left
                          · intro w'
                            go_simp
                            with_reducible rfl
                          rotate_left
                          · simp only [Act.put, List.setIfInBounds_toArray, List.set_cons_zero, List.set_cons_succ, i64_w, i32_w]
                            rfl
                          refine take_ (i := 4) (N := some 61) (v := ?_) (a' := ?_) #[true, true, true, true, true, true, false, true, false, false, false, false] rfl rfl (take_ofW HT_.out HW_.out (by kernel_rfl)) (fun _ _ _ h => h) (Or.inl ⟨by rfl, ?_⟩) hHeld ?_ ?_
                          rotate_left
                          · rintro w' ⟨s0, s1, s2, s3, s4, s5, s6, s7, s8, s9, s10, s11, s12, s13, s14, s15⟩
                            go_simp
                            with_reducible rfl
                          rotate_left
                          · simp only [Act.put, List.setIfInBounds_toArray, List.set_cons_zero, List.set_cons_succ, i64_w, i32_w]
                            rfl
                          refine take_ (i := 6) (N := some 63) (v := ?_) (a' := ?_) #[true, true, true, true, true, true, true, true, false, false, false, false] rfl rfl (take_ofW HT_.out HW_.out (by kernel_rfl)) (fun _ _ _ h => h) (Or.inl ⟨by rfl, ?_⟩) hHeld ?_ ?_
                          rotate_left
                          · rintro w' ⟨s0, s1, s2, s3, s4, s5, s6, s7, s8, s9, s10, s11, s12, s13, s14, s15⟩
                            go_simp
                            with_reducible rfl
                          rotate_left
                          · simp only [Act.put, List.setIfInBounds_toArray, List.set_cons_zero, List.set_cons_succ, i64_w, i32_w]
                            rfl
                          refine pure_ (i := 8) (N := some 65) (v := ?_) (a' := ?_) #[true, true, true, true, true, true, true, true, true, false, false, false] rfl rfl (any_of HT_.out (by kernel_rfl)) (fun _ _ _ h => h) (Or.inl ⟨by rfl, ?_⟩) ?_ ?_
                          rotate_left
                          · intro w'
                            go_simp
                            with_reducible rfl
                          rotate_left
                          · simp only [Act.put, List.setIfInBounds_toArray, List.set_cons_zero, List.set_cons_succ, i64_w, i32_w]
                            rfl
                          refine take_ (i := 9) (N := some 66) (v := ?_) (a' := ?_) #[true, true, true, true, true, true, true, true, true, true, false, false] rfl rfl (take_ofW HT_.out HW_.out (by kernel_rfl)) (fun _ _ _ h => h) (Or.inl ⟨by rfl, ?_⟩) hHeld ?_ ?_
                          rotate_left
                          · rintro w' ⟨s0, s1, s2, s3, s4, s5, s6, s7, s8, s9, s10, s11, s12, s13, s14, s15⟩
                            go_simp
                            with_reducible rfl
                          rotate_left
                          · simp only [Act.put, List.setIfInBounds_toArray, List.set_cons_zero, List.set_cons_succ, i64_w, i32_w]
                            rfl
                          refine one_ (i := 10) (N := some 67) #[true, true, true, true, true, true, true, true, true, true, true, false] rfl rfl (one_of HT_.out (by kernel_rfl)) (by decide) (fun K hK => ?_)
                          refine goes_ Tryd.func22 (by kernel_rfl) rfl #[.agg #[.int .i64 ((rd_T24 l0_3 x5_1).f0), .int .i64 ((rd_T24 l0_3 x5_1).f1), .string ((rd_T24 l0_3 x5_1).f2), .slice A238_3 ((rd_T24 l0_3 x5_1).f3).length c238_3], .agg #[.int .i64 ((rd_T24 l1_3 x5_1).f0), .int .i64 ((rd_T24 l1_3 x5_1).f1), .string ((rd_T24 l1_3 x5_1).f2), .slice A239_3 ((rd_T24 l1_3 x5_1).f3).length c239_3]] (by rfl) rfl rfl (by (try simp only [List.map_toArray, List.map_cons, List.map_nil]); first | done | rfl | (simp only [List.length_drop, List.length_take]; rfl)) ?_
                          with_reducible refine (ih kj10 (by have := HK1.out; have := HJ10.out; omega) ((rd_T24 l0_3 x5_1).f0) ((rd_T24 l0_3 x5_1).f1) ((rd_T24 l0_3 x5_1).f2) _ _ ((rd_T24 l0_3 x5_1).f3) ((rd_T24 l1_3 x5_1).f0) ((rd_T24 l1_3 x5_1).f1) ((rd_T24 l1_3 x5_1).f2) _ _ ((rd_T24 l1_3 x5_1).f3) t240 _ ?side1 ?side2 ?side3 ?side4 A22.out).mono ?_
                          (case side1 => repeat (first | exact (Kd.C_below HR238_3.out HB.out) | (with_reducible refine Kd.C_alloc ?_ _) | (with_reducible refine Kd.C_drewN ?_ _) | (with_reducible refine Kd.C_drew ?_)))
                          (case side2 => exact HC238_3.out)
                          (case side3 => repeat (first | exact (Kd.C_below HR239_3.out HB.out) | (with_reducible refine Kd.C_alloc ?_ _) | (with_reducible refine Kd.C_drewN ?_ _) | (with_reducible refine Kd.C_drew ?_)))
                          (case side4 => exact HC239_3.out)
                          rintro e w25 ⟨rfl, hb⟩
                          refine ⟨_, rfl, ?_⟩
                          have n0_ := Aside0.mk (blk_below (g := gb233) (o := .cells #[.int .i64 a0_0, .int .i64 a0_1, .string a0_2, .slice (some ad238) l0_3.length c0_3] 24 (0, 0)) (by (with_reducible repeat (first | refine blk_drewN ?_ _ | refine blk_drew ?_ | refine blk_alloc ?_ _)); exact BK233.out) hb)
                          have n1_ := Aside0.mk (blk_below (g := gb234) (o := .cells #[.int .i64 a1_0, .int .i64 a1_1, .string a1_2, .slice (some ad239) l1_3.length c1_3] 24 (0, 0)) (by (with_reducible repeat (first | refine blk_drewN ?_ _ | refine blk_drew ?_ | refine blk_alloc ?_ _)); exact BK234.out) hb)
                          have n2_ := Aside0.mk (below_step (by repeat (first | (with_reducible first | exact HB.out | apply below_alloc | apply pw_below_drewN | apply below_drew1 | refine below_set ?_ GE233.out | refine below_set ?_ GE234.out) | exact HB.out)) hb)
                          clear BK233
                          clear BK234
                          clear HB
                          have BK233 := n0_
                          have BK234 := n1_
                          have HB := n2_
                          clear n0_ n1_ n2_
                          (try clear hb)
                          (try clear hb2)
                          (try clear hk)
                          (try clear hi)
                          refine hK.out _ _ ⟨(blk_cell BK233.out 0).trans rfl, (blk_cell BK233.out 1).trans rfl, (blk_cell BK233.out 2).trans rfl, (blk_cell BK233.out 3).trans rfl, (blk_cell BK234.out 0).trans rfl, (blk_cell BK234.out 1).trans rfl, (blk_cell BK234.out 2).trans rfl, (blk_cell BK234.out 3).trans rfl, ((HB.out.cell (World.block_lt_of_cell? w _ hw238_0)).trans hw238_0), ((HB.out.cell (World.block_lt_of_cell? w _ hw238_1)).trans hw238_1), ((HB.out.cell (World.block_lt_of_cell? w _ hw238_2)).trans hw238_2), ((HB.out.cell (World.block_lt_of_cell? w _ hw238_3)).trans hw238_3), ((HB.out.cell (World.block_lt_of_cell? w _ hw239_0)).trans hw239_0), ((HB.out.cell (World.block_lt_of_cell? w _ hw239_1)).trans hw239_1), ((HB.out.cell (World.block_lt_of_cell? w _ hw239_2)).trans hw239_2), ((HB.out.cell (World.block_lt_of_cell? w _ hw239_3)).trans hw239_3)⟩ (fun hHeld => ?_)
                          clear hK K
                          refine norm_ (a' := ?_) ?_ ?_
                          rotate_left
                          · show Act.put _ (some 67) _ = _
                            simp only [Act.put, List.setIfInBounds_toArray, List.set_cons_zero, List.set_cons_succ, i64_w, i32_w]
                            rfl
                          refine pure_ (i := 11) (N := some 6) (v := ?_) (a' := ?_) #[true, true, true, true, true, true, true, true, true, true, true, true] rfl rfl (any_of HT_.out (by kernel_rfl)) (fun _ _ _ h => h) (Or.inl ⟨by rfl, ?_⟩) ?_ ?_
                          rotate_left
                          · intro w'
                            go_simp
                            with_reducible rfl
                          rotate_left
                          · simp only [Act.put, List.setIfInBounds_toArray, List.set_cons_zero, List.set_cons_succ, i64_w, i32_w]
                            rfl
                          refine done_ (done_of HT_.out (by kernel_rfl)) ?_
                          try go_wp2
                          go_roundg kj10
                          case measure => have := HK1.out; have := HJ10.out; omega
                          case rel => exact ⟨(wrap64 (x5_1 + 1)), (by first | rfl | (simp; done) | (simp [*]; done)), H', ⟨by have := HK1.out; have := HJ10.out; omega⟩, ⟨by (with_reducible repeat (first | refine blk_drewN ?_ _ | refine blk_drew ?_ | refine blk_alloc ?_ _)); exact BK233.out⟩, ⟨by (with_reducible repeat (first | refine blk_drewN ?_ _ | refine blk_drew ?_ | refine blk_alloc ?_ _)); exact BK234.out⟩, ⟨by repeat (first | (with_reducible first | exact HB.out | apply below_alloc | apply pw_below_drewN | apply below_drew1 | refine below_set ?_ GE233.out | refine below_set ?_ GE234.out) | exact HB.out)⟩⟩
                        · rw [if_neg c23] at H
                          have c23b0 : (t240 == 0) = false := beq_eq_false_iff_ne.mpr c23
                          have c23b1 : (t240 != 0) = true := bne_iff_ne.mpr c23
                          obtain rfl := Option.some.inj H
                          try go_wp2
                          have n0_ := Aside0.mk (blk_drew BK233.out)
                          have n1_ := Aside0.mk (blk_drew BK234.out)
                          have n2_ := Aside0.mk (below_drew1 HB.out)
                          clear BK233
                          clear BK234
                          clear HB
                          have BK233 := n0_
                          have BK234 := n1_
                          have HB := n2_
                          clear n0_ n1_ n2_
                          have p238 : 0 ≤ (x5_1 : Int) := of_decide_eq_true (by first | (with_reducible assumption) | assumption)
                          have q238 : x5_1 < (l0_3.length : Int) := of_decide_eq_true (by first | (with_reducible assumption) | assumption)
                          obtain ⟨ad238, A238_3, c238_3, e238, hx238_0, hx238_1, hx238_2, hx238_3, hl238_3, hi238_3⟩ := at_T24 HR0_3.out x5_1 p238 q238
                          have hw238_3 := hx238_3
                          have hw238_2 := hx238_2
                          have hw238_1 := hx238_1
                          have hw238_0 := hx238_0
                          cases e238
                          replace hx238_0 := (HB.out.cell (World.block_lt_of_cell? w _ hx238_0)).trans hx238_0
                          replace hx238_1 := (HB.out.cell (World.block_lt_of_cell? w _ hx238_1)).trans hx238_1
                          replace hx238_2 := (HB.out.cell (World.block_lt_of_cell? w _ hx238_2)).trans hx238_2
                          replace hx238_3 := (HB.out.cell (World.block_lt_of_cell? w _ hx238_3)).trans hx238_3
                          have HR238_3 := Aside0.mk hi238_3
                          have HC238_3 := Aside0.mk hl238_3
                          clear hi238_3 hl238_3
                          replace p238 := eq_true p238
                          replace q238 := eq_true q238
                          have p239 : 0 ≤ (x5_1 : Int) := of_decide_eq_true (by first | (with_reducible assumption) | assumption)
                          have q239 : x5_1 < (l1_3.length : Int) := of_decide_eq_true (by first | (with_reducible assumption) | assumption)
                          obtain ⟨ad239, A239_3, c239_3, e239, hx239_0, hx239_1, hx239_2, hx239_3, hl239_3, hi239_3⟩ := at_T24 HR1_3.out x5_1 p239 q239
                          have hw239_3 := hx239_3
                          have hw239_2 := hx239_2
                          have hw239_1 := hx239_1
                          have hw239_0 := hx239_0
                          cases e239
                          replace hx239_0 := (HB.out.cell (World.block_lt_of_cell? w _ hx239_0)).trans hx239_0
                          replace hx239_1 := (HB.out.cell (World.block_lt_of_cell? w _ hx239_1)).trans hx239_1
                          replace hx239_2 := (HB.out.cell (World.block_lt_of_cell? w _ hx239_2)).trans hx239_2
                          replace hx239_3 := (HB.out.cell (World.block_lt_of_cell? w _ hx239_3)).trans hx239_3
                          have HR239_3 := Aside0.mk hi239_3
                          have HC239_3 := Aside0.mk hl239_3
                          clear hi239_3 hl239_3
                          replace p239 := eq_true p239
                          replace q239 := eq_true q239
                          refine start_ (n := 12) (S := fun w' => w'.cell? ⟨gb233, 0, none⟩ = some (.int .i64 a0_0) ∧ w'.cell? ⟨gb233, 1, none⟩ = some (.int .i64 a0_1) ∧ w'.cell? ⟨gb233, 2, none⟩ = some (.string a0_2) ∧ w'.cell? ⟨gb233, 3, none⟩ = some (.slice (some ad238) l0_3.length c0_3) ∧ w'.cell? ⟨gb234, 0, none⟩ = some (.int .i64 a1_0) ∧ w'.cell? ⟨gb234, 1, none⟩ = some (.int .i64 a1_1) ∧ w'.cell? ⟨gb234, 2, none⟩ = some (.string a1_2) ∧ w'.cell? ⟨gb234, 3, none⟩ = some (.slice (some ad239) l1_3.length c1_3) ∧ w'.cell? (ad238.add ((x5_1).toNat * 4)) = some (.int .i64 ((rd_T24 l0_3 x5_1).f0)) ∧ w'.cell? ⟨(ad238.add ((x5_1).toNat * 4)).block, (ad238.add ((x5_1).toNat * 4)).off + 1, none⟩ = some (.int .i64 ((rd_T24 l0_3 x5_1).f1)) ∧ w'.cell? ⟨(ad238.add ((x5_1).toNat * 4)).block, (ad238.add ((x5_1).toNat * 4)).off + 2, none⟩ = some (.string ((rd_T24 l0_3 x5_1).f2)) ∧ w'.cell? ⟨(ad238.add ((x5_1).toNat * 4)).block, (ad238.add ((x5_1).toNat * 4)).off + 3, none⟩ = some (.slice A238_3 ((rd_T24 l0_3 x5_1).f3).length c238_3) ∧ w'.cell? (ad239.add ((x5_1).toNat * 4)) = some (.int .i64 ((rd_T24 l1_3 x5_1).f0)) ∧ w'.cell? ⟨(ad239.add ((x5_1).toNat * 4)).block, (ad239.add ((x5_1).toNat * 4)).off + 1, none⟩ = some (.int .i64 ((rd_T24 l1_3 x5_1).f1)) ∧ w'.cell? ⟨(ad239.add ((x5_1).toNat * 4)).block, (ad239.add ((x5_1).toNat * 4)).off + 2, none⟩ = some (.string ((rd_T24 l1_3 x5_1).f2)) ∧ w'.cell? ⟨(ad239.add ((x5_1).toNat * 4)).block, (ad239.add ((x5_1).toNat * 4)).off + 3, none⟩ = some (.slice A239_3 ((rd_T24 l1_3 x5_1).f3).length c239_3)) (ds := []) #[false, false, false, false, false, false, false, false, false, false, false, false] (by kernel_rfl) rfl rfl ⟨(blk_cell BK233.out 0).trans rfl, (blk_cell BK233.out 1).trans rfl, (blk_cell BK233.out 2).trans rfl, (blk_cell BK233.out 3).trans rfl, (blk_cell BK234.out 0).trans rfl, (blk_cell BK234.out 1).trans rfl, (blk_cell BK234.out 2).trans rfl, (blk_cell BK234.out 3).trans rfl, ((HB.out.cell (World.block_lt_of_cell? w _ hw238_0)).trans hw238_0), ((HB.out.cell (World.block_lt_of_cell? w _ hw238_1)).trans hw238_1), ((HB.out.cell (World.block_lt_of_cell? w _ hw238_2)).trans hw238_2), ((HB.out.cell (World.block_lt_of_cell? w _ hw238_3)).trans hw238_3), ((HB.out.cell (World.block_lt_of_cell? w _ hw239_0)).trans hw239_0), ((HB.out.cell (World.block_lt_of_cell? w _ hw239_1)).trans hw239_1), ((HB.out.cell (World.block_lt_of_cell? w _ hw239_2)).trans hw239_2), ((HB.out.cell (World.block_lt_of_cell? w _ hw239_3)).trans hw239_3)⟩ (fun hHeld => ?_); refine with_tabW gangsawref02_Compare.tab10 gangsawref02_Compare.bits10 (fun HT_ HW_ => ?_)
                          generalize wc.drew = w26 at BK233 BK234 HB HR238_3 HR239_3 hx238_0 hx238_1 hx238_2 hx238_3 hx239_0 hx239_1 hx239_2 hx239_3 hHeld ⊢
                          refine pure_ (i := 0) (N := some 57) (v := ?_) (a' := ?_) #[true, false, false, false, false, false, false, false, false, false, false, false] rfl rfl (any_of HT_.out (by kernel_rfl)) (fun _ _ _ h => h) (Or.inl ⟨by rfl, ?_⟩) ?_ ?_
                          rotate_left
                          · intro w'
                            go_simp
                            with_reducible rfl
                          rotate_left
                          · simp only [Act.put, List.setIfInBounds_toArray, List.set_cons_zero, List.set_cons_succ, i64_w, i32_w]
                            rfl
                          refine pure_ (i := 2) (N := some 59) (v := ?_) (a' := ?_) #[true, false, true, false, false, false, false, false, false, false, false, false] rfl rfl (any_of HT_.out (by kernel_rfl)) (fun _ _ _ h => h) (Or.inl ⟨by rfl, ?_⟩) ?_ ?_
                          rotate_left
                          · intro w'
                            go_simp
                            with_reducible rfl
                          rotate_left
                          · simp only [Act.put, List.setIfInBounds_toArray, List.set_cons_zero, List.set_cons_succ, i64_w, i32_w]
                            rfl
                          refine pure_ (i := 5) (N := some 62) (v := ?_) (a' := ?_) #[true, false, true, false, false, true, false, false, false, false, false, false] rfl rfl (any_of HT_.out (by kernel_rfl)) (fun _ _ _ h => h) (Or.inl ⟨by rfl, ?_⟩) ?_ ?_
                          rotate_left
                          · intro w'
                            go_simp
                            with_reducible rfl
                          rotate_left
                          · simp only [Act.put, List.setIfInBounds_toArray, List.set_cons_zero, List.set_cons_succ, i64_w, i32_w]
                            rfl
                          refine pure_ (i := 7) (N := some 64) (v := ?_) (a' := ?_) #[true, false, true, false, false, true, false, true, false, false, false, false] rfl rfl (any_of HT_.out (by kernel_rfl)) (fun _ _ _ h => h) (Or.inl ⟨by rfl, ?_⟩) ?_ ?_
                          rotate_left
                          · intro w'
                            go_simp
                            with_reducible rfl
                          rotate_left
                          · simp only [Act.put, List.setIfInBounds_toArray, List.set_cons_zero, List.set_cons_succ, i64_w, i32_w]
                            rfl
                          refine take_ (i := 1) (N := some 58) (v := ?_) (a' := ?_) #[true, true, true, false, false, true, false, true, false, false, false, false] rfl rfl (take_ofW HT_.out HW_.out (by kernel_rfl)) (fun _ _ _ h => h) (Or.inl ⟨by rfl, ?_⟩) hHeld ?_ ?_
                          rotate_left
                          · rintro w' ⟨s0, s1, s2, s3, s4, s5, s6, s7, s8, s9, s10, s11, s12, s13, s14, s15⟩
                            go_simp
                            with_reducible rfl
                          rotate_left
                          · simp only [Act.put, List.setIfInBounds_toArray, List.set_cons_zero, List.set_cons_succ, i64_w, i32_w]
                            rfl
                          refine pure_ (i := 3) (N := some 60) (v := ?_) (a' := ?_) #[true, true, true, true, false, true, false, true, false, false, false, false] rfl rfl (any_of HT_.out (by kernel_rfl)) (fun _ _ _ h => h) (Or.inl ⟨by rfl, ?_⟩) ?_ ?_
                          rotate_left
                          · intro w'
                            go_simp
                            with_reducible rfl
                          rotate_left
                          · simp only [Act.put, List.setIfInBounds_toArray, List.set_cons_zero, List.set_cons_succ, i64_w, i32_w]
                            rfl
                          refine take_ (i := 4) (N := some 61) (v := ?_) (a' := ?_) #[true, true, true, true, true, true, false, true, false, false, false, false] rfl rfl (take_ofW HT_.out HW_.out (by kernel_rfl)) (fun _ _ _ h => h) (Or.inl ⟨by rfl, ?_⟩) hHeld ?_ ?_
                          rotate_left
                          · rintro w' ⟨s0, s1, s2, s3, s4, s5, s6, s7, s8, s9, s10, s11, s12, s13, s14, s15⟩
                            go_simp
                            with_reducible rfl
                          rotate_left
                          · simp only [Act.put, List.setIfInBounds_toArray, List.set_cons_zero, List.set_cons_succ, i64_w, i32_w]
                            rfl
                          refine take_ (i := 6) (N := some 63) (v := ?_) (a' := ?_) #[true, true, true, true, true, true, true, true, false, false, false, false] rfl rfl (take_ofW HT_.out HW_.out (by kernel_rfl)) (fun _ _ _ h => h) (Or.inl ⟨by rfl, ?_⟩) hHeld ?_ ?_
                          rotate_left
                          · rintro w' ⟨s0, s1, s2, s3, s4, s5, s6, s7, s8, s9, s10, s11, s12, s13, s14, s15⟩
                            go_simp
                            with_reducible rfl
                          rotate_left
                          · simp only [Act.put, List.setIfInBounds_toArray, List.set_cons_zero, List.set_cons_succ, i64_w, i32_w]
                            rfl
                          refine pure_ (i := 8) (N := some 65) (v := ?_) (a' := ?_) #[true, true, true, true, true, true, true, true, true, false, false, false] rfl rfl (any_of HT_.out (by kernel_rfl)) (fun _ _ _ h => h) (Or.inl ⟨by rfl, ?_⟩) ?_ ?_
                          rotate_left
                          · intro w'
                            go_simp
                            with_reducible rfl
                          rotate_left
                          · simp only [Act.put, List.setIfInBounds_toArray, List.set_cons_zero, List.set_cons_succ, i64_w, i32_w]
                            rfl
                          refine take_ (i := 9) (N := some 66) (v := ?_) (a' := ?_) #[true, true, true, true, true, true, true, true, true, true, false, false] rfl rfl (take_ofW HT_.out HW_.out (by kernel_rfl)) (fun _ _ _ h => h) (Or.inl ⟨by rfl, ?_⟩) hHeld ?_ ?_
                          rotate_left
                          · rintro w' ⟨s0, s1, s2, s3, s4, s5, s6, s7, s8, s9, s10, s11, s12, s13, s14, s15⟩
                            go_simp
                            with_reducible rfl
                          rotate_left
                          · simp only [Act.put, List.setIfInBounds_toArray, List.set_cons_zero, List.set_cons_succ, i64_w, i32_w]
                            rfl
                          refine one_ (i := 10) (N := some 67) #[true, true, true, true, true, true, true, true, true, true, true, false] rfl rfl (one_of HT_.out (by kernel_rfl)) (by decide) (fun K hK => ?_)
                          refine goes_ Tryd.func22 (by kernel_rfl) rfl #[.agg #[.int .i64 ((rd_T24 l0_3 x5_1).f0), .int .i64 ((rd_T24 l0_3 x5_1).f1), .string ((rd_T24 l0_3 x5_1).f2), .slice A238_3 ((rd_T24 l0_3 x5_1).f3).length c238_3], .agg #[.int .i64 ((rd_T24 l1_3 x5_1).f0), .int .i64 ((rd_T24 l1_3 x5_1).f1), .string ((rd_T24 l1_3 x5_1).f2), .slice A239_3 ((rd_T24 l1_3 x5_1).f3).length c239_3]] (by rfl) rfl rfl (by (try simp only [List.map_toArray, List.map_cons, List.map_nil]); first | done | rfl | (simp only [List.length_drop, List.length_take]; rfl)) ?_
                          with_reducible refine (ih kj10 (by have := HK1.out; have := HJ10.out; omega) ((rd_T24 l0_3 x5_1).f0) ((rd_T24 l0_3 x5_1).f1) ((rd_T24 l0_3 x5_1).f2) _ _ ((rd_T24 l0_3 x5_1).f3) ((rd_T24 l1_3 x5_1).f0) ((rd_T24 l1_3 x5_1).f1) ((rd_T24 l1_3 x5_1).f2) _ _ ((rd_T24 l1_3 x5_1).f3) t240 _ ?side1 ?side2 ?side3 ?side4 A22.out).mono ?_
                          (case side1 => repeat (first | exact (Kd.C_below HR238_3.out HB.out) | (with_reducible refine Kd.C_alloc ?_ _) | (with_reducible refine Kd.C_drewN ?_ _) | (with_reducible refine Kd.C_drew ?_)))
                          (case side2 => exact HC238_3.out)
                          (case side3 => repeat (first | exact (Kd.C_below HR239_3.out HB.out) | (with_reducible refine Kd.C_alloc ?_ _) | (with_reducible refine Kd.C_drewN ?_ _) | (with_reducible refine Kd.C_drew ?_)))
                          (case side4 => exact HC239_3.out)
                          rintro e w27 ⟨rfl, hb⟩
                          refine ⟨_, rfl, ?_⟩
                          have n0_ := Aside0.mk (blk_below (g := gb233) (o := .cells #[.int .i64 a0_0, .int .i64 a0_1, .string a0_2, .slice (some ad238) l0_3.length c0_3] 24 (0, 0)) (by (with_reducible repeat (first | refine blk_drewN ?_ _ | refine blk_drew ?_ | refine blk_alloc ?_ _)); exact BK233.out) hb)
                          have n1_ := Aside0.mk (blk_below (g := gb234) (o := .cells #[.int .i64 a1_0, .int .i64 a1_1, .string a1_2, .slice (some ad239) l1_3.length c1_3] 24 (0, 0)) (by (with_reducible repeat (first | refine blk_drewN ?_ _ | refine blk_drew ?_ | refine blk_alloc ?_ _)); exact BK234.out) hb)
                          have n2_ := Aside0.mk (below_step (by repeat (first | (with_reducible first | exact HB.out | apply below_alloc | apply pw_below_drewN | apply below_drew1 | refine below_set ?_ GE233.out | refine below_set ?_ GE234.out) | exact HB.out)) hb)
                          clear BK233
                          clear BK234
                          clear HB
                          have BK233 := n0_
                          have BK234 := n1_
                          have HB := n2_
                          clear n0_ n1_ n2_
                          (try clear hb)
                          (try clear hb2)
                          (try clear hk)
                          (try clear hi)
                          refine hK.out _ _ ⟨(blk_cell BK233.out 0).trans rfl, (blk_cell BK233.out 1).trans rfl, (blk_cell BK233.out 2).trans rfl, (blk_cell BK233.out 3).trans rfl, (blk_cell BK234.out 0).trans rfl, (blk_cell BK234.out 1).trans rfl, (blk_cell BK234.out 2).trans rfl, (blk_cell BK234.out 3).trans rfl, ((HB.out.cell (World.block_lt_of_cell? w _ hw238_0)).trans hw238_0), ((HB.out.cell (World.block_lt_of_cell? w _ hw238_1)).trans hw238_1), ((HB.out.cell (World.block_lt_of_cell? w _ hw238_2)).trans hw238_2), ((HB.out.cell (World.block_lt_of_cell? w _ hw238_3)).trans hw238_3), ((HB.out.cell (World.block_lt_of_cell? w _ hw239_0)).trans hw239_0), ((HB.out.cell (World.block_lt_of_cell? w _ hw239_1)).trans hw239_1), ((HB.out.cell (World.block_lt_of_cell? w _ hw239_2)).trans hw239_2), ((HB.out.cell (World.block_lt_of_cell? w _ hw239_3)).trans hw239_3)⟩ (fun hHeld => ?_)
                          clear hK K
                          refine norm_ (a' := ?_) ?_ ?_
                          rotate_left
                          · show Act.put _ (some 67) _ = _
                            simp only [Act.put, List.setIfInBounds_toArray, List.set_cons_zero, List.set_cons_succ, i64_w, i32_w]
                            rfl
                          refine pure_ (i := 11) (N := some 6) (v := ?_) (a' := ?_) #[true, true, true, true, true, true, true, true, true, true, true, true] rfl rfl (any_of HT_.out (by kernel_rfl)) (fun _ _ _ h => h) (Or.inl ⟨by rfl, ?_⟩) ?_ ?_
                          rotate_left
                          · intro w'
                            go_simp
                            with_reducible rfl
                          rotate_left
                          · simp only [Act.put, List.setIfInBounds_toArray, List.set_cons_zero, List.set_cons_succ, i64_w, i32_w]
                            rfl
                          refine done_ (done_of HT_.out (by kernel_rfl)) ?_
                          try go_wp2
                          go_ret
                          exact ⟨by first | rfl | (simp [errW_none, errW_some] <;> rfl) | (simp [*, errW_none, errW_some] <;> rfl), by repeat (first | (with_reducible first | exact HB.out | apply below_alloc | apply pw_below_drewN | apply below_drew1 | refine below_set ?_ GE233.out | refine below_set ?_ GE234.out) | exact HB.out)⟩
                      · rw [if_neg c21] at H
                        exact absurd H (by simp)
                    · rw [if_neg c20] at H
                      exact absurd H (by simp)
                  · rw [if_neg c19] at H
                    exact absurd H (by simp)
                · replace c18 := Bool.eq_false_iff.mpr c18
                  subst c18
                  have H1 : (if (l0_3.length : Int) = (l1_3.length : Int) then (some 0) else ((gangsawref02_sign.f (decide ((l0_3.length : Int) < (l1_3.length : Int)))).bind fun t241 => (some t241))) = some r := by rw [if_neg (show ¬ (false = true) by decide)] at H; exact H
                  clear H
                  have H := H1
                  clear H1
                  by_cases c28 : (l0_3.length : Int) = (l1_3.length : Int)
                  · rw [if_pos c28] at H
                    have c28b0 : ((l0_3.length : Int) == (l1_3.length : Int)) = true := beq_iff_eq.mpr c28
                    have c28b1 : ((l0_3.length : Int) != (l1_3.length : Int)) = false := bne_eq_false_iff_eq.mpr c28
                    have c28b2 : (l0_3.length == l1_3.length) = true := by first | simpa using c28 | (simp at c28 ⊢; omega)
                    clear c28
                    obtain rfl := Option.some.inj H
                    have hnb29 := NB233_234.out
                    have hnc29 := NB234_233.out
                    have hcz30_0 : wc.cell? ⟨gb233, 0, none⟩ = some (.int .i64 a0_0) := (blk_cell BK233.out 0).trans rfl
                    have hcz30_1 : wc.cell? ⟨gb233, 1, none⟩ = some (.int .i64 a0_1) := (blk_cell BK233.out 1).trans rfl
                    have hcz30_2 : wc.cell? ⟨gb233, 2, none⟩ = some (.string a0_2) := (blk_cell BK233.out 2).trans rfl
                    have hcz30_3 : wc.cell? ⟨gb233, 3, none⟩ = some (.slice A0_3 l0_3.length c0_3) := (blk_cell BK233.out 3).trans rfl
                    have hfz30_0 := blk_frozen BK233.out 0
                    have hfz30_1 := blk_frozen BK233.out 1
                    have hfz30_2 := blk_frozen BK233.out 2
                    have hfz30_3 := blk_frozen BK233.out 3
                    have hcz31_0 : wc.cell? ⟨gb234, 0, none⟩ = some (.int .i64 a1_0) := (blk_cell BK234.out 0).trans rfl
                    have hcz31_1 : wc.cell? ⟨gb234, 1, none⟩ = some (.int .i64 a1_1) := (blk_cell BK234.out 1).trans rfl
                    have hcz31_2 : wc.cell? ⟨gb234, 2, none⟩ = some (.string a1_2) := (blk_cell BK234.out 2).trans rfl
                    have hcz31_3 : wc.cell? ⟨gb234, 3, none⟩ = some (.slice A1_3 l1_3.length c1_3) := (blk_cell BK234.out 3).trans rfl
                    have hfz31_0 := blk_frozen BK234.out 0
                    have hfz31_1 := blk_frozen BK234.out 1
                    have hfz31_2 := blk_frozen BK234.out 2
                    have hfz31_3 := blk_frozen BK234.out 3
                    go_wp2
                    go_ret
                    exact ⟨by first | rfl | (simp [errW_none, errW_some] <;> rfl) | (simp [*, errW_none, errW_some] <;> rfl), by repeat (first | (with_reducible first | exact HB.out | apply below_alloc | apply pw_below_drewN | apply below_drew1 | refine below_set ?_ GE233.out | refine below_set ?_ GE234.out) | exact HB.out)⟩
                  · rw [if_neg c28] at H
                    have c28b0 : ((l0_3.length : Int) == (l1_3.length : Int)) = false := beq_eq_false_iff_ne.mpr c28
                    have c28b1 : ((l0_3.length : Int) != (l1_3.length : Int)) = true := bne_iff_ne.mpr c28
                    have c28b2 : (l0_3.length == l1_3.length) = false := by first | simpa using c28 | (simp at c28 ⊢; omega)
                    replace H := Option.bind_eq_some_iff.mp H
                    obtain ⟨t241, A320, H⟩ := H
                    replace H : (some t241) = some r := H
                    have A32 := Aside0.mk A320
                    clear A320
                    obtain rfl := Option.some.inj H
                    have hnb33 := NB233_234.out
                    have hnc33 := NB234_233.out
                    have hcz34_0 : wc.cell? ⟨gb233, 0, none⟩ = some (.int .i64 a0_0) := (blk_cell BK233.out 0).trans rfl
                    have hcz34_1 : wc.cell? ⟨gb233, 1, none⟩ = some (.int .i64 a0_1) := (blk_cell BK233.out 1).trans rfl
                    have hcz34_2 : wc.cell? ⟨gb233, 2, none⟩ = some (.string a0_2) := (blk_cell BK233.out 2).trans rfl
                    have hcz34_3 : wc.cell? ⟨gb233, 3, none⟩ = some (.slice A0_3 l0_3.length c0_3) := (blk_cell BK233.out 3).trans rfl
                    have hfz34_0 := blk_frozen BK233.out 0
                    have hfz34_1 := blk_frozen BK233.out 1
                    have hfz34_2 := blk_frozen BK233.out 2
                    have hfz34_3 := blk_frozen BK233.out 3
                    have hcz35_0 : wc.cell? ⟨gb234, 0, none⟩ = some (.int .i64 a1_0) := (blk_cell BK234.out 0).trans rfl
                    have hcz35_1 : wc.cell? ⟨gb234, 1, none⟩ = some (.int .i64 a1_1) := (blk_cell BK234.out 1).trans rfl
                    have hcz35_2 : wc.cell? ⟨gb234, 2, none⟩ = some (.string a1_2) := (blk_cell BK234.out 2).trans rfl
                    have hcz35_3 : wc.cell? ⟨gb234, 3, none⟩ = some (.slice A1_3 l1_3.length c1_3) := (blk_cell BK234.out 3).trans rfl
                    have hfz35_0 := blk_frozen BK234.out 0
                    have hfz35_1 := blk_frozen BK234.out 1
                    have hfz35_2 := blk_frozen BK234.out 2
                    have hfz35_3 := blk_frozen BK234.out 3
                    have A32n := Aside0.mk (show gangsawref02_sign.f (decide (l0_3.length < l1_3.length)) = some t241 by have h_ := A32.out; simpa using h_)
                    go_wp2_with (first | ((with_reducible refine gate_callee (f := 40) rfl ?_); refine goesL_ (some 85) rfl rfl Tryd.func40 (by kernel_rfl) rfl #[.bool (decide (l0_3.length < l1_3.length))] rfl (by (try simp only [List.map_toArray, List.map_cons, List.map_nil]); first | done | rfl | (simp only [List.length_drop, List.length_take]; rfl)) ?_; (with_reducible refine (gangsawref02_sign.calls (decide (l0_3.length < l1_3.length)) t241 _ A32n.out).mono ?_); rintro e w' ⟨rfl, ⟨nd, rfl⟩⟩; refine ⟨_, rfl, ?_⟩))
                    go_ret
                    exact ⟨by first | rfl | (simp [errW_none, errW_some] <;> rfl) | (simp [*, errW_none, errW_some] <;> rfl), by repeat (first | (with_reducible first | exact HB.out | apply below_alloc | apply pw_below_drewN | apply below_drew1 | refine below_set ?_ GE233.out | refine below_set ?_ GE234.out) | exact HB.out)⟩
      · rw [if_neg c5] at H
        have c5b0 : (a0_2.toList == a1_2.toList) = false := beq_eq_false_iff_ne.mpr c5
        have c5b1 : (a0_2.toList != a1_2.toList) = true := bne_iff_ne.mpr c5
        replace H := Option.bind_eq_some_iff.mp H
        obtain ⟨t235, A360, H⟩ := H
        replace H : (some t235) = some r := H
        have A36 := Aside0.mk A360
        clear A360
        obtain rfl := Option.some.inj H
        go_enter Tryd.func22, Tryd.ntmps22
        go_wp2_with (first | ((with_reducible refine gate_dst (N := 2) rfl ?_); (try (refine gate_guard (by rfl) ?_; dsimp only)); refine box_event ?hg (N := 2) ?hd (cs := #[.int .i64 a0_0, .int .i64 a0_1, .string a0_2, .slice A0_3 l0_3.length c0_3]) (t := 24) ?hr ?_; (case hd => rfl); (case hg => rfl); (case hr => first | (go_simp; done) | (go_simp; rfl)); intro gb233 hg w37 hbox hb; have n0_ := Aside0.mk (below_step (by repeat (first | (with_reducible first | exact HB.out | apply below_alloc | apply pw_below_drewN | apply below_drew1) | exact HB.out)) hb); have n1_ := Aside0.mk (hbox); have n2_ := Aside0.mk ((by rw [hg]; exact (below_size (by repeat (first | (with_reducible first | exact HB.out | apply below_alloc | apply pw_below_drewN | apply below_drew1) | exact HB.out))) : w.heap.size ≤ gb233)); have n3_ := Aside0.mk ((by rw [hg]; exact (below_size (by repeat (first | (with_reducible first | exact HB.out | apply below_alloc | apply pw_below_drewN | apply below_drew1) | exact HB.out))) : w.heap.size ≤ gb233)); clear HB; have HB := n0_; have BK233 := n1_; have GW233 := n2_; have GE233 := n3_; clear n0_ n1_ n2_ n3_; clear hb hbox hg) | ((with_reducible refine gate_dst (N := 3) rfl ?_); (try (refine gate_guard (by rfl) ?_; dsimp only)); refine box_event ?hg (N := 3) ?hd (cs := #[.int .i64 a1_0, .int .i64 a1_1, .string a1_2, .slice A1_3 l1_3.length c1_3]) (t := 24) ?hr ?_; (case hd => rfl); (case hg => rfl); (case hr => first | (go_simp; done) | (go_simp; rfl)); intro gb234 hg w38 hbox hb; have n0_ := Aside0.mk (blk_below (g := gb233) (o := .cells #[.int .i64 a0_0, .int .i64 a0_1, .string a0_2, .slice A0_3 l0_3.length c0_3] 24 (0, 0)) (by (with_reducible repeat (first | refine blk_drewN ?_ _ | refine blk_drew ?_ | refine blk_alloc ?_ _)); exact BK233.out) hb); have n1_ := Aside0.mk (below_step (by repeat (first | (with_reducible first | exact HB.out | apply below_alloc | apply pw_below_drewN | apply below_drew1 | refine below_set ?_ GE233.out) | exact HB.out)) hb); have n2_ := Aside0.mk (hbox); have n3_ := Aside0.mk ((by rw [hg]; exact (below_size (by repeat (first | (with_reducible first | exact HB.out | apply below_alloc | apply pw_below_drewN | apply below_drew1 | refine below_set ?_ GE233.out) | exact HB.out))) : w.heap.size ≤ gb234)); have n4_ := Aside0.mk ((by rw [hg]; exact (below_size (by repeat (first | (with_reducible first | exact HB.out | apply below_alloc | apply pw_below_drewN | apply below_drew1 | refine below_set ?_ GE233.out) | exact HB.out))) : w.heap.size ≤ gb234)); have n5_ := Aside0.mk ((by rw [hg]; exact Nat.ne_of_lt (blk_lt (g := gb233) (o := .cells #[.int .i64 a0_0, .int .i64 a0_1, .string a0_2, .slice A0_3 l0_3.length c0_3] 24 (0, 0)) (by (with_reducible repeat (first | refine blk_drewN ?_ _ | refine blk_drew ?_ | refine blk_alloc ?_ _)); exact BK233.out)) : gb233 ≠ gb234)); have n6_ := Aside0.mk ((by rw [hg]; exact Nat.ne_of_gt (blk_lt (g := gb233) (o := .cells #[.int .i64 a0_0, .int .i64 a0_1, .string a0_2, .slice A0_3 l0_3.length c0_3] 24 (0, 0)) (by (with_reducible repeat (first | refine blk_drewN ?_ _ | refine blk_drew ?_ | refine blk_alloc ?_ _)); exact BK233.out)) : gb234 ≠ gb233)); clear BK233; clear HB; have BK233 := n0_; have HB := n1_; have BK234 := n2_; have GW234 := n3_; have GE234 := n4_; have NB233_234 := n5_; have NB234_233 := n6_; clear n0_ n1_ n2_ n3_ n4_ n5_ n6_; clear hb hbox hg; have hnb39 := NB233_234.out; have hnc39 := NB234_233.out; have hcz40_0 : w38.cell? ⟨gb233, 0, none⟩ = some (.int .i64 a0_0) := (blk_cell BK233.out 0).trans rfl; have hcz40_1 : w38.cell? ⟨gb233, 1, none⟩ = some (.int .i64 a0_1) := (blk_cell BK233.out 1).trans rfl; have hcz40_2 : w38.cell? ⟨gb233, 2, none⟩ = some (.string a0_2) := (blk_cell BK233.out 2).trans rfl; have hcz40_3 : w38.cell? ⟨gb233, 3, none⟩ = some (.slice A0_3 l0_3.length c0_3) := (blk_cell BK233.out 3).trans rfl; have hfz40_0 := blk_frozen BK233.out 0; have hfz40_1 := blk_frozen BK233.out 1; have hfz40_2 := blk_frozen BK233.out 2; have hfz40_3 := blk_frozen BK233.out 3; have hcz41_0 : w38.cell? ⟨gb234, 0, none⟩ = some (.int .i64 a1_0) := (blk_cell BK234.out 0).trans rfl; have hcz41_1 : w38.cell? ⟨gb234, 1, none⟩ = some (.int .i64 a1_1) := (blk_cell BK234.out 1).trans rfl; have hcz41_2 : w38.cell? ⟨gb234, 2, none⟩ = some (.string a1_2) := (blk_cell BK234.out 2).trans rfl; have hcz41_3 : w38.cell? ⟨gb234, 3, none⟩ = some (.slice A1_3 l1_3.length c1_3) := (blk_cell BK234.out 3).trans rfl; have hfz41_0 := blk_frozen BK234.out 0; have hfz41_1 := blk_frozen BK234.out 1; have hfz41_2 := blk_frozen BK234.out 2; have hfz41_3 := blk_frozen BK234.out 3) | ((with_reducible refine gate_callee (f := 40) rfl ?_); refine goesL_ (some 42) rfl rfl Tryd.func40 (by kernel_rfl) rfl #[.bool (Op.bytesLess a0_2.toList a1_2.toList)] rfl (by (try simp only [List.map_toArray, List.map_cons, List.map_nil]); first | done | rfl | (simp only [List.length_drop, List.length_take]; rfl)) ?_; (with_reducible refine (gangsawref02_sign.calls (Op.bytesLess a0_2.toList a1_2.toList) t235 _ A36.out).mono ?_); rintro e w' ⟨rfl, ⟨nd, rfl⟩⟩; refine ⟨_, rfl, ?_⟩))
        go_ret
        exact ⟨by first | rfl | (simp [errW_none, errW_some] <;> rfl) | (simp [*, errW_none, errW_some] <;> rfl), by repeat (first | (with_reducible first | exact HB.out | apply below_alloc | apply pw_below_drewN | apply below_drew1 | refine below_set ?_ GE233.out | refine below_set ?_ GE234.out) | exact HB.out)⟩
    · rw [if_neg c4] at H
      have c4b0 : (a0_1 == a1_1) = false := beq_eq_false_iff_ne.mpr c4
      have c4b1 : (a0_1 != a1_1) = true := bne_iff_ne.mpr c4
      replace H := Option.bind_eq_some_iff.mp H
      obtain ⟨t236, A420, H⟩ := H
      replace H : (some t236) = some r := H
      have A42 := Aside0.mk A420
      clear A420
      obtain rfl := Option.some.inj H
      go_enter Tryd.func22, Tryd.ntmps22
      go_wp2_with (first | ((with_reducible refine gate_dst (N := 2) rfl ?_); (try (refine gate_guard (by rfl) ?_; dsimp only)); refine box_event ?hg (N := 2) ?hd (cs := #[.int .i64 a0_0, .int .i64 a0_1, .string a0_2, .slice A0_3 l0_3.length c0_3]) (t := 24) ?hr ?_; (case hd => rfl); (case hg => rfl); (case hr => first | (go_simp; done) | (go_simp; rfl)); intro gb233 hg w43 hbox hb; have n0_ := Aside0.mk (below_step (by repeat (first | (with_reducible first | exact HB.out | apply below_alloc | apply pw_below_drewN | apply below_drew1) | exact HB.out)) hb); have n1_ := Aside0.mk (hbox); have n2_ := Aside0.mk ((by rw [hg]; exact (below_size (by repeat (first | (with_reducible first | exact HB.out | apply below_alloc | apply pw_below_drewN | apply below_drew1) | exact HB.out))) : w.heap.size ≤ gb233)); have n3_ := Aside0.mk ((by rw [hg]; exact (below_size (by repeat (first | (with_reducible first | exact HB.out | apply below_alloc | apply pw_below_drewN | apply below_drew1) | exact HB.out))) : w.heap.size ≤ gb233)); clear HB; have HB := n0_; have BK233 := n1_; have GW233 := n2_; have GE233 := n3_; clear n0_ n1_ n2_ n3_; clear hb hbox hg) | ((with_reducible refine gate_dst (N := 3) rfl ?_); (try (refine gate_guard (by rfl) ?_; dsimp only)); refine box_event ?hg (N := 3) ?hd (cs := #[.int .i64 a1_0, .int .i64 a1_1, .string a1_2, .slice A1_3 l1_3.length c1_3]) (t := 24) ?hr ?_; (case hd => rfl); (case hg => rfl); (case hr => first | (go_simp; done) | (go_simp; rfl)); intro gb234 hg w44 hbox hb; have n0_ := Aside0.mk (blk_below (g := gb233) (o := .cells #[.int .i64 a0_0, .int .i64 a0_1, .string a0_2, .slice A0_3 l0_3.length c0_3] 24 (0, 0)) (by (with_reducible repeat (first | refine blk_drewN ?_ _ | refine blk_drew ?_ | refine blk_alloc ?_ _)); exact BK233.out) hb); have n1_ := Aside0.mk (below_step (by repeat (first | (with_reducible first | exact HB.out | apply below_alloc | apply pw_below_drewN | apply below_drew1 | refine below_set ?_ GE233.out) | exact HB.out)) hb); have n2_ := Aside0.mk (hbox); have n3_ := Aside0.mk ((by rw [hg]; exact (below_size (by repeat (first | (with_reducible first | exact HB.out | apply below_alloc | apply pw_below_drewN | apply below_drew1 | refine below_set ?_ GE233.out) | exact HB.out))) : w.heap.size ≤ gb234)); have n4_ := Aside0.mk ((by rw [hg]; exact (below_size (by repeat (first | (with_reducible first | exact HB.out | apply below_alloc | apply pw_below_drewN | apply below_drew1 | refine below_set ?_ GE233.out) | exact HB.out))) : w.heap.size ≤ gb234)); have n5_ := Aside0.mk ((by rw [hg]; exact Nat.ne_of_lt (blk_lt (g := gb233) (o := .cells #[.int .i64 a0_0, .int .i64 a0_1, .string a0_2, .slice A0_3 l0_3.length c0_3] 24 (0, 0)) (by (with_reducible repeat (first | refine blk_drewN ?_ _ | refine blk_drew ?_ | refine blk_alloc ?_ _)); exact BK233.out)) : gb233 ≠ gb234)); have n6_ := Aside0.mk ((by rw [hg]; exact Nat.ne_of_gt (blk_lt (g := gb233) (o := .cells #[.int .i64 a0_0, .int .i64 a0_1, .string a0_2, .slice A0_3 l0_3.length c0_3] 24 (0, 0)) (by (with_reducible repeat (first | refine blk_drewN ?_ _ | refine blk_drew ?_ | refine blk_alloc ?_ _)); exact BK233.out)) : gb234 ≠ gb233)); clear BK233; clear HB; have BK233 := n0_; have HB := n1_; have BK234 := n2_; have GW234 := n3_; have GE234 := n4_; have NB233_234 := n5_; have NB234_233 := n6_; clear n0_ n1_ n2_ n3_ n4_ n5_ n6_; clear hb hbox hg; have hnb45 := NB233_234.out; have hnc45 := NB234_233.out; have hcz46_0 : w44.cell? ⟨gb233, 0, none⟩ = some (.int .i64 a0_0) := (blk_cell BK233.out 0).trans rfl; have hcz46_1 : w44.cell? ⟨gb233, 1, none⟩ = some (.int .i64 a0_1) := (blk_cell BK233.out 1).trans rfl; have hcz46_2 : w44.cell? ⟨gb233, 2, none⟩ = some (.string a0_2) := (blk_cell BK233.out 2).trans rfl; have hcz46_3 : w44.cell? ⟨gb233, 3, none⟩ = some (.slice A0_3 l0_3.length c0_3) := (blk_cell BK233.out 3).trans rfl; have hfz46_0 := blk_frozen BK233.out 0; have hfz46_1 := blk_frozen BK233.out 1; have hfz46_2 := blk_frozen BK233.out 2; have hfz46_3 := blk_frozen BK233.out 3; have hcz47_0 : w44.cell? ⟨gb234, 0, none⟩ = some (.int .i64 a1_0) := (blk_cell BK234.out 0).trans rfl; have hcz47_1 : w44.cell? ⟨gb234, 1, none⟩ = some (.int .i64 a1_1) := (blk_cell BK234.out 1).trans rfl; have hcz47_2 : w44.cell? ⟨gb234, 2, none⟩ = some (.string a1_2) := (blk_cell BK234.out 2).trans rfl; have hcz47_3 : w44.cell? ⟨gb234, 3, none⟩ = some (.slice A1_3 l1_3.length c1_3) := (blk_cell BK234.out 3).trans rfl; have hfz47_0 := blk_frozen BK234.out 0; have hfz47_1 := blk_frozen BK234.out 1; have hfz47_2 := blk_frozen BK234.out 2; have hfz47_3 := blk_frozen BK234.out 3) | ((with_reducible refine gate_callee (f := 40) rfl ?_); refine goesL_ (some 30) rfl rfl Tryd.func40 (by kernel_rfl) rfl #[.bool (decide (a0_1 < a1_1))] rfl (by (try simp only [List.map_toArray, List.map_cons, List.map_nil]); first | done | rfl | (simp only [List.length_drop, List.length_take]; rfl)) ?_; (with_reducible refine (gangsawref02_sign.calls (decide (a0_1 < a1_1)) t236 _ A42.out).mono ?_); rintro e w' ⟨rfl, ⟨nd, rfl⟩⟩; refine ⟨_, rfl, ?_⟩))
      go_ret
      exact ⟨by first | rfl | (simp [errW_none, errW_some] <;> rfl) | (simp [*, errW_none, errW_some] <;> rfl), by repeat (first | (with_reducible first | exact HB.out | apply below_alloc | apply pw_below_drewN | apply below_drew1 | refine below_set ?_ GE233.out | refine below_set ?_ GE234.out) | exact HB.out)⟩
  · rw [if_neg c3] at H
    have c3b0 : (a0_0 == a1_0) = false := beq_eq_false_iff_ne.mpr c3
    have c3b1 : (a0_0 != a1_0) = true := bne_iff_ne.mpr c3
    replace H := Option.bind_eq_some_iff.mp H
    obtain ⟨t237, A480, H⟩ := H
    replace H : (some t237) = some r := H
    have A48 := Aside0.mk A480
    clear A480
    obtain rfl := Option.some.inj H
    go_enter Tryd.func22, Tryd.ntmps22
    go_wp2_with (first | ((with_reducible refine gate_dst (N := 2) rfl ?_); (try (refine gate_guard (by rfl) ?_; dsimp only)); refine box_event ?hg (N := 2) ?hd (cs := #[.int .i64 a0_0, .int .i64 a0_1, .string a0_2, .slice A0_3 l0_3.length c0_3]) (t := 24) ?hr ?_; (case hd => rfl); (case hg => rfl); (case hr => first | (go_simp; done) | (go_simp; rfl)); intro gb233 hg w49 hbox hb; have n0_ := Aside0.mk (below_step (by repeat (first | (with_reducible first | exact HB.out | apply below_alloc | apply pw_below_drewN | apply below_drew1) | exact HB.out)) hb); have n1_ := Aside0.mk (hbox); have n2_ := Aside0.mk ((by rw [hg]; exact (below_size (by repeat (first | (with_reducible first | exact HB.out | apply below_alloc | apply pw_below_drewN | apply below_drew1) | exact HB.out))) : w.heap.size ≤ gb233)); have n3_ := Aside0.mk ((by rw [hg]; exact (below_size (by repeat (first | (with_reducible first | exact HB.out | apply below_alloc | apply pw_below_drewN | apply below_drew1) | exact HB.out))) : w.heap.size ≤ gb233)); clear HB; have HB := n0_; have BK233 := n1_; have GW233 := n2_; have GE233 := n3_; clear n0_ n1_ n2_ n3_; clear hb hbox hg) | ((with_reducible refine gate_dst (N := 3) rfl ?_); (try (refine gate_guard (by rfl) ?_; dsimp only)); refine box_event ?hg (N := 3) ?hd (cs := #[.int .i64 a1_0, .int .i64 a1_1, .string a1_2, .slice A1_3 l1_3.length c1_3]) (t := 24) ?hr ?_; (case hd => rfl); (case hg => rfl); (case hr => first | (go_simp; done) | (go_simp; rfl)); intro gb234 hg w50 hbox hb; have n0_ := Aside0.mk (blk_below (g := gb233) (o := .cells #[.int .i64 a0_0, .int .i64 a0_1, .string a0_2, .slice A0_3 l0_3.length c0_3] 24 (0, 0)) (by (with_reducible repeat (first | refine blk_drewN ?_ _ | refine blk_drew ?_ | refine blk_alloc ?_ _)); exact BK233.out) hb); have n1_ := Aside0.mk (below_step (by repeat (first | (with_reducible first | exact HB.out | apply below_alloc | apply pw_below_drewN | apply below_drew1 | refine below_set ?_ GE233.out) | exact HB.out)) hb); have n2_ := Aside0.mk (hbox); have n3_ := Aside0.mk ((by rw [hg]; exact (below_size (by repeat (first | (with_reducible first | exact HB.out | apply below_alloc | apply pw_below_drewN | apply below_drew1 | refine below_set ?_ GE233.out) | exact HB.out))) : w.heap.size ≤ gb234)); have n4_ := Aside0.mk ((by rw [hg]; exact (below_size (by repeat (first | (with_reducible first | exact HB.out | apply below_alloc | apply pw_below_drewN | apply below_drew1 | refine below_set ?_ GE233.out) | exact HB.out))) : w.heap.size ≤ gb234)); have n5_ := Aside0.mk ((by rw [hg]; exact Nat.ne_of_lt (blk_lt (g := gb233) (o := .cells #[.int .i64 a0_0, .int .i64 a0_1, .string a0_2, .slice A0_3 l0_3.length c0_3] 24 (0, 0)) (by (with_reducible repeat (first | refine blk_drewN ?_ _ | refine blk_drew ?_ | refine blk_alloc ?_ _)); exact BK233.out)) : gb233 ≠ gb234)); have n6_ := Aside0.mk ((by rw [hg]; exact Nat.ne_of_gt (blk_lt (g := gb233) (o := .cells #[.int .i64 a0_0, .int .i64 a0_1, .string a0_2, .slice A0_3 l0_3.length c0_3] 24 (0, 0)) (by (with_reducible repeat (first | refine blk_drewN ?_ _ | refine blk_drew ?_ | refine blk_alloc ?_ _)); exact BK233.out)) : gb234 ≠ gb233)); clear BK233; clear HB; have BK233 := n0_; have HB := n1_; have BK234 := n2_; have GW234 := n3_; have GE234 := n4_; have NB233_234 := n5_; have NB234_233 := n6_; clear n0_ n1_ n2_ n3_ n4_ n5_ n6_; clear hb hbox hg; have hnb51 := NB233_234.out; have hnc51 := NB234_233.out; have hcz52_0 : w50.cell? ⟨gb233, 0, none⟩ = some (.int .i64 a0_0) := (blk_cell BK233.out 0).trans rfl; have hcz52_1 : w50.cell? ⟨gb233, 1, none⟩ = some (.int .i64 a0_1) := (blk_cell BK233.out 1).trans rfl; have hcz52_2 : w50.cell? ⟨gb233, 2, none⟩ = some (.string a0_2) := (blk_cell BK233.out 2).trans rfl; have hcz52_3 : w50.cell? ⟨gb233, 3, none⟩ = some (.slice A0_3 l0_3.length c0_3) := (blk_cell BK233.out 3).trans rfl; have hfz52_0 := blk_frozen BK233.out 0; have hfz52_1 := blk_frozen BK233.out 1; have hfz52_2 := blk_frozen BK233.out 2; have hfz52_3 := blk_frozen BK233.out 3; have hcz53_0 : w50.cell? ⟨gb234, 0, none⟩ = some (.int .i64 a1_0) := (blk_cell BK234.out 0).trans rfl; have hcz53_1 : w50.cell? ⟨gb234, 1, none⟩ = some (.int .i64 a1_1) := (blk_cell BK234.out 1).trans rfl; have hcz53_2 : w50.cell? ⟨gb234, 2, none⟩ = some (.string a1_2) := (blk_cell BK234.out 2).trans rfl; have hcz53_3 : w50.cell? ⟨gb234, 3, none⟩ = some (.slice A1_3 l1_3.length c1_3) := (blk_cell BK234.out 3).trans rfl; have hfz53_0 := blk_frozen BK234.out 0; have hfz53_1 := blk_frozen BK234.out 1; have hfz53_2 := blk_frozen BK234.out 2; have hfz53_3 := blk_frozen BK234.out 3) | ((with_reducible refine gate_callee (f := 40) rfl ?_); refine goesL_ (some 18) rfl rfl Tryd.func40 (by kernel_rfl) rfl #[.bool (decide (a0_0 < a1_0))] rfl (by (try simp only [List.map_toArray, List.map_cons, List.map_nil]); first | done | rfl | (simp only [List.length_drop, List.length_take]; rfl)) ?_; (with_reducible refine (gangsawref02_sign.calls (decide (a0_0 < a1_0)) t237 _ A48.out).mono ?_); rintro e w' ⟨rfl, ⟨nd, rfl⟩⟩; refine ⟨_, rfl, ?_⟩))
    go_ret
    exact ⟨by first | rfl | (simp [errW_none, errW_some] <;> rfl) | (simp [*, errW_none, errW_some] <;> rfl), by repeat (first | (with_reducible first | exact HB.out | apply below_alloc | apply pw_below_drewN | apply below_drew1 | refine below_set ?_ GE233.out | refine below_set ?_ GE234.out) | exact HB.out)⟩

/-! ### gangsawlaw02_mine: function 23 -/
mutual
def gangsawlaw02_mine.l0 : Nat → Int → Int → Int → ByteArray → List (S32) → Int → Int → ByteArray → List (S24) → Option (Int × Int × ByteArray × (List (S24)))
  | 0, _, _, _, _, _, _, _, _, _ => none
  | k + 1, x4, x243000, x243001, x243002, x243003, x245000, x245001, x245002, x245003 => if x4 < (x243003.length : Int) then (if 0 ≤ x4 then ((gangsawlaw02_mine.f k ((rd_T32 x243003 x4).f0) ((rd_T32 x243003 x4).f1) ((rd_T32 x243003 x4).f2) ((rd_T32 x243003 x4).f3)).bind fun bt246 => (if x245003.length < 2513169434916 then (gangsawlaw02_mine.l0 k (wrap64 (x4 + 1)) x243000 x243001 x243002 x243003 x245000 x245001 x245002 (x245003 ++ [(⟨bt246.1, bt246.2.1, bt246.2.2.1, bt246.2.2.2⟩ : S24)])) else (none))) else (none)) else (some (x245000, x245001, x245002, x245003))
def gangsawlaw02_mine.f : Nat → Int → Int → ByteArray → List (S32) → Option (Int × Int × ByteArray × (List (S24)))
  | 0, _, _, _, _ => none
  | k + 1, a0_0, a0_1, a0_2, l0_3 => gangsawlaw02_mine.l0 k 0 a0_0 a0_1 a0_2 l0_3 a0_0 a0_1 a0_2 ([] : List (S24))
end
theorem gangsawlaw02_mine.mono_l : ∀ k, (∀ y0 y1 y2 y3, LeO (gangsawlaw02_mine.f k y0 y1 y2 y3) (gangsawlaw02_mine.f (k + 1) y0 y1 y2 y3)) ∧ (∀ y0 y1 y2 y3 y4 y5 y6 y7 y8, LeO (gangsawlaw02_mine.l0 k y0 y1 y2 y3 y4 y5 y6 y7 y8) (gangsawlaw02_mine.l0 (k + 1) y0 y1 y2 y3 y4 y5 y6 y7 y8))
  | 0 => ⟨fun _ _ _ _ r h => by simp [gangsawlaw02_mine.f] at h, fun _ _ _ _ _ _ _ _ _ r h => by simp [gangsawlaw02_mine.l0] at h⟩
  | k + 1 => by
    obtain ⟨ih0, ih1⟩ := gangsawlaw02_mine.mono_l k
    refine ⟨?_, ?_⟩
    · intro y0 y1 y2 y3
      unfold gangsawlaw02_mine.f
      repeat' first
      | (with_reducible exact ih0 _ _ _ _)
      | (with_reducible exact ih1 _ _ _ _ _ _ _ _ _)
      | (with_reducible exact LeO.refl _)
      | (with_reducible exact LeO.none _)
      | (with_reducible refine LeO.ite ?_ ?_)
      | (with_reducible refine LeO.bind ?_ (fun _ => ?_))
      | exact ih0 _ _ _ _
      | exact ih1 _ _ _ _ _ _ _ _ _
      | exact LeO.none _
      | refine LeO.ite ?_ ?_
      | refine LeO.bind ?_ (fun _ => ?_)
    · intro y0 y1 y2 y3 y4 y5 y6 y7 y8
      unfold gangsawlaw02_mine.l0
      repeat' first
      | (with_reducible exact ih0 _ _ _ _)
      | (with_reducible exact ih1 _ _ _ _ _ _ _ _ _)
      | (with_reducible exact LeO.refl _)
      | (with_reducible exact LeO.none _)
      | (with_reducible refine LeO.ite ?_ ?_)
      | (with_reducible refine LeO.bind ?_ (fun _ => ?_))
      | exact ih0 _ _ _ _
      | exact ih1 _ _ _ _ _ _ _ _ _
      | exact LeO.none _
      | refine LeO.ite ?_ ?_
      | refine LeO.bind ?_ (fun _ => ?_)
theorem gangsawlaw02_mine.mono : ∀ a0 a1 a2 a3 k, LeO (gangsawlaw02_mine.f k a0 a1 a2 a3) (gangsawlaw02_mine.f (k + 1) a0 a1 a2 a3) := by
  intro a0 a1 a2 a3 k
  obtain ⟨ih0, ih1⟩ := gangsawlaw02_mine.mono_l k
  exact ih0 a0 a1 a2 a3
def gangsawlaw02_mine.T5 : Bool × List (List Nat × List Nat) := (true, [([], []), ([0], [0]), ([], []), ([2], [2]), ([], []), ([3, 4], [3, 4]), ([5], [5]), ([6], [6]), ([7], [7]), ([1, 8, 7], [1, 8]), ([0, 1, 2, 3, 4, 5, 6, 7, 8, 9], []), ([10, 9, 9, 0, 1, 2, 3, 4, 5, 6, 7, 8, 9], [9, 10])])
def gangsawlaw02_mine.B5 : List Nat := [0, 1, 0, 4, 0, 28, 60, 124, 252, 511, 1023, 2047]
theorem gangsawlaw02_mine.tab5 : rtab .any (opsOf Tryd.f23 5) = gangsawlaw02_mine.T5 := by kernel_rfl
theorem gangsawlaw02_mine.bits5 : waitsOk gangsawlaw02_mine.T5.2 gangsawlaw02_mine.B5 = true := by kernel_rfl
set_option maxHeartbeats 8000000 in
set_option maxRecDepth 100000 in
theorem gangsawlaw02_mine.calls (k : Nat) : ∀ (a0_0 : Int) (a0_1 : Int) (a0_2 : ByteArray) (A0_3 : Option Addr) (c0_3 : Nat) (l0_3 : List (S32)) (r1 : Int) (r2 : Int) (r3 : ByteArray) (r4 : List (S24)) (w : World) (hr0_3 : Kd.C k32 w A0_3 l0_3.length l0_3) (hc0_3 : l0_3.length ≤ c0_3) (h : gangsawlaw02_mine.f k a0_0 a0_1 a0_2 l0_3 = some (r1, r2, r3, r4)),
    Calls Tryd.prog 23 #[.agg #[.int .i64 a0_0, .int .i64 a0_1, .string a0_2, .slice A0_3 l0_3.length c0_3]] w fun e w' => ∃ v3_ : Value, e = .returned (.agg #[.int .i64 r1, .int .i64 r2, .string r3, v3_]) ∧ Kd.R k24 24 w' w.heap.size (fun _ => True) v3_ r4 ∧ Below w.heap.size w w' := by
  induction k using Nat.strongRecOn with
  | _ k ih =>
  intro a0_0 a0_1 a0_2 A0_3 c0_3 l0_3 r1 r2 r3 r4 w hr0_3 hc0_3 h
  cases k with
  | zero => exact absurd h (by simp [gangsawlaw02_mine.f])
  | succ k =>
  simp only [gangsawlaw02_mine.f] at h
  have hu32 := Tryd.underlying32
  have hu24 := Tryd.underlying24
  have HR0_3 := Aside0.mk hr0_3
  have HC0_3 := Aside0.mk hc0_3
  clear hr0_3 hc0_3
  have HB := Aside0.mk (Below.refl w.heap.size w)
  have H : (gangsawlaw02_mine.l0 k 0 a0_0 a0_1 a0_2 l0_3 a0_0 a0_1 a0_2 ([] : List (S24))) = some (r1, r2, r3, r4) := h
  clear h
  have H' := Aside0.mk H
  clear H
  go_enter Tryd.func23, Tryd.ntmps23
  go_wp2_with (first | ((with_reducible refine gate_dst (N := 1) rfl ?_); refine box_event ?hg (N := 1) ?hd (cs := #[.int .i64 a0_0, .int .i64 a0_1, .string a0_2, .slice A0_3 l0_3.length c0_3]) (t := 32) ?hr ?_; (case hd => rfl); (case hg => rfl); (case hr => first | (go_simp; done) | (go_simp; rfl)); intro gb242 hg w2 hbox hb; have n0_ := Aside0.mk (below_step (by repeat (first | (with_reducible first | exact HB.out | apply below_alloc | apply pw_below_drewN | apply below_drew1) | exact HB.out)) hb); have n1_ := Aside0.mk (hbox); have n2_ := Aside0.mk ((by rw [hg]; exact (below_size (by repeat (first | (with_reducible first | exact HB.out | apply below_alloc | apply pw_below_drewN | apply below_drew1) | exact HB.out))) : w.heap.size ≤ gb242)); have n3_ := Aside0.mk ((by rw [hg]; exact (below_size (by repeat (first | (with_reducible first | exact HB.out | apply below_alloc | apply pw_below_drewN | apply below_drew1) | exact HB.out))) : w.heap.size ≤ gb242)); clear HB; have HB := n0_; have BK242 := n1_; have GW242 := n2_; have GE242 := n3_; clear n0_ n1_ n2_ n3_; clear hb hbox hg) | ((with_reducible refine gate_dst (N := 2) rfl ?_); refine box_event ?hg (N := 2) ?hd (cs := #[.int .i64 0, .int .i64 0, .string (⟨#[]⟩ : ByteArray), .slice none 0 0]) (t := 24) ?hr ?_; (case hd => rfl); (case hg => rfl); (case hr => first | (go_simp; done) | (go_simp; rfl)); intro gb243 hg w3 hbox hb; have n0_ := Aside0.mk (blk_below (g := gb242) (o := .cells #[.int .i64 a0_0, .int .i64 a0_1, .string a0_2, .slice A0_3 l0_3.length c0_3] 32 (0, 0)) (by (with_reducible repeat (first | refine blk_drewN ?_ _ | refine blk_drew ?_ | refine blk_alloc ?_ _)); exact BK242.out) hb); have n1_ := Aside0.mk (below_step (by repeat (first | (with_reducible first | exact HB.out | apply below_alloc | apply pw_below_drewN | apply below_drew1 | refine below_set ?_ GE242.out) | exact HB.out)) hb); have n2_ := Aside0.mk (hbox); have n3_ := Aside0.mk ((by rw [hg]; exact (below_size (by repeat (first | (with_reducible first | exact HB.out | apply below_alloc | apply pw_below_drewN | apply below_drew1 | refine below_set ?_ GE242.out) | exact HB.out))) : w.heap.size ≤ gb243)); have n4_ := Aside0.mk ((by rw [hg]; exact (below_size (by repeat (first | (with_reducible first | exact HB.out | apply below_alloc | apply pw_below_drewN | apply below_drew1 | refine below_set ?_ GE242.out) | exact HB.out))) : w.heap.size ≤ gb243)); have n5_ := Aside0.mk ((by rw [hg]; exact Nat.ne_of_lt (blk_lt (g := gb242) (o := .cells #[.int .i64 a0_0, .int .i64 a0_1, .string a0_2, .slice A0_3 l0_3.length c0_3] 32 (0, 0)) (by (with_reducible repeat (first | refine blk_drewN ?_ _ | refine blk_drew ?_ | refine blk_alloc ?_ _)); exact BK242.out)) : gb242 ≠ gb243)); have n6_ := Aside0.mk ((by rw [hg]; exact Nat.ne_of_gt (blk_lt (g := gb242) (o := .cells #[.int .i64 a0_0, .int .i64 a0_1, .string a0_2, .slice A0_3 l0_3.length c0_3] 32 (0, 0)) (by (with_reducible repeat (first | refine blk_drewN ?_ _ | refine blk_drew ?_ | refine blk_alloc ?_ _)); exact BK242.out)) : gb243 ≠ gb242)); clear BK242; clear HB; have BK242 := n0_; have HB := n1_; have BK243 := n2_; have GW243 := n3_; have GE243 := n4_; have NB242_243 := n5_; have NB243_242 := n6_; clear n0_ n1_ n2_ n3_ n4_ n5_ n6_; clear hb hbox hg; have hnb4 := NB242_243.out; have hnc4 := NB243_242.out; have hcz5_0 : w3.cell? ⟨gb242, 0, none⟩ = some (.int .i64 a0_0) := (blk_cell BK242.out 0).trans rfl; have hcz5_1 : w3.cell? ⟨gb242, 1, none⟩ = some (.int .i64 a0_1) := (blk_cell BK242.out 1).trans rfl; have hcz5_2 : w3.cell? ⟨gb242, 2, none⟩ = some (.string a0_2) := (blk_cell BK242.out 2).trans rfl; have hcz5_3 : w3.cell? ⟨gb242, 3, none⟩ = some (.slice A0_3 l0_3.length c0_3) := (blk_cell BK242.out 3).trans rfl; have hfz5_0 := blk_frozen BK242.out 0; have hfz5_1 := blk_frozen BK242.out 1; have hfz5_2 := blk_frozen BK242.out 2; have hfz5_3 := blk_frozen BK242.out 3) | ((with_reducible refine gate_dst (N := 3) rfl ?_); refine box_event ?hg (N := 3) ?hd (cs := #[.int .i64 0, .int .i64 0, .string (⟨#[]⟩ : ByteArray), .slice none 0 0]) (t := 24) ?hr ?_; (case hd => rfl); (case hg => rfl); (case hr => first | (go_simp; done) | (go_simp; rfl)); intro gb244 hg w6 hbox hb; have n0_ := Aside0.mk (blk_below (g := gb242) (o := .cells #[.int .i64 a0_0, .int .i64 a0_1, .string a0_2, .slice A0_3 l0_3.length c0_3] 32 (0, 0)) (by (with_reducible repeat (first | refine blk_drewN ?_ _ | refine blk_drew ?_ | refine blk_alloc ?_ _)); exact BK242.out) hb); have n1_ := Aside0.mk (blk_below (g := gb243) (o := .cells #[.int .i64 0, .int .i64 0, .string (⟨#[]⟩ : ByteArray), .slice none 0 0] 24 (0, 0)) (by (with_reducible repeat (first | refine blk_drewN ?_ _ | refine blk_drew ?_ | refine blk_alloc ?_ _)); exact BK243.out) hb); have n2_ := Aside0.mk (below_step (by repeat (first | (with_reducible first | exact HB.out | apply below_alloc | apply pw_below_drewN | apply below_drew1 | refine below_set ?_ GE242.out | refine below_set ?_ GE243.out) | exact HB.out)) hb); have n3_ := Aside0.mk (hbox); have n4_ := Aside0.mk ((by rw [hg]; exact (below_size (by repeat (first | (with_reducible first | exact HB.out | apply below_alloc | apply pw_below_drewN | apply below_drew1 | refine below_set ?_ GE242.out | refine below_set ?_ GE243.out) | exact HB.out))) : w.heap.size ≤ gb244)); have n5_ := Aside0.mk ((by rw [hg]; exact (below_size (by repeat (first | (with_reducible first | exact HB.out | apply below_alloc | apply pw_below_drewN | apply below_drew1 | refine below_set ?_ GE242.out | refine below_set ?_ GE243.out) | exact HB.out))) : w.heap.size ≤ gb244)); have n6_ := Aside0.mk ((by rw [hg]; exact Nat.ne_of_lt (blk_lt (g := gb242) (o := .cells #[.int .i64 a0_0, .int .i64 a0_1, .string a0_2, .slice A0_3 l0_3.length c0_3] 32 (0, 0)) (by (with_reducible repeat (first | refine blk_drewN ?_ _ | refine blk_drew ?_ | refine blk_alloc ?_ _)); exact BK242.out)) : gb242 ≠ gb244)); have n7_ := Aside0.mk ((by rw [hg]; exact Nat.ne_of_gt (blk_lt (g := gb242) (o := .cells #[.int .i64 a0_0, .int .i64 a0_1, .string a0_2, .slice A0_3 l0_3.length c0_3] 32 (0, 0)) (by (with_reducible repeat (first | refine blk_drewN ?_ _ | refine blk_drew ?_ | refine blk_alloc ?_ _)); exact BK242.out)) : gb244 ≠ gb242)); have n8_ := Aside0.mk ((by rw [hg]; exact Nat.ne_of_lt (blk_lt (g := gb243) (o := .cells #[.int .i64 0, .int .i64 0, .string (⟨#[]⟩ : ByteArray), .slice none 0 0] 24 (0, 0)) (by (with_reducible repeat (first | refine blk_drewN ?_ _ | refine blk_drew ?_ | refine blk_alloc ?_ _)); exact BK243.out)) : gb243 ≠ gb244)); have n9_ := Aside0.mk ((by rw [hg]; exact Nat.ne_of_gt (blk_lt (g := gb243) (o := .cells #[.int .i64 0, .int .i64 0, .string (⟨#[]⟩ : ByteArray), .slice none 0 0] 24 (0, 0)) (by (with_reducible repeat (first | refine blk_drewN ?_ _ | refine blk_drew ?_ | refine blk_alloc ?_ _)); exact BK243.out)) : gb244 ≠ gb243)); clear BK242; clear BK243; clear HB; have BK242 := n0_; have BK243 := n1_; have HB := n2_; have BK244 := n3_; have GW244 := n4_; have GE244 := n5_; have NB242_244 := n6_; have NB244_242 := n7_; have NB243_244 := n8_; have NB244_243 := n9_; clear n0_ n1_ n2_ n3_ n4_ n5_ n6_ n7_ n8_ n9_; clear hb hbox hg; have hnb7 := NB244_242.out; have hnc7 := NB242_244.out; have hnb8 := NB244_243.out; have hnc8 := NB243_244.out; have hcz9_0 : w6.cell? ⟨gb244, 0, none⟩ = some (.int .i64 0) := (blk_cell BK244.out 0).trans rfl; have hcz9_1 : w6.cell? ⟨gb244, 1, none⟩ = some (.int .i64 0) := (blk_cell BK244.out 1).trans rfl; have hcz9_2 : w6.cell? ⟨gb244, 2, none⟩ = some (.string (⟨#[]⟩ : ByteArray)) := (blk_cell BK244.out 2).trans rfl; have hcz9_3 : w6.cell? ⟨gb244, 3, none⟩ = some (.slice none 0 0) := (blk_cell BK244.out 3).trans rfl; have hfz9_0 := blk_frozen BK244.out 0; have hfz9_1 := blk_frozen BK244.out 1; have hfz9_2 := blk_frozen BK244.out 2; have hfz9_3 := blk_frozen BK244.out 3))
  go_loopg [4] k (fun kq v4 w' => ∃ (x4_1 : Int) (x245003_1 : List (S24)) (u245003 : Value), v4 = .int .i64 x4_1 ∧ Aside0 (gangsawlaw02_mine.l0 kq x4_1 a0_0 a0_1 a0_2 l0_3 a0_0 a0_1 a0_2 x245003_1 = some (r1, r2, r3, r4)) ∧ Aside0 (kq ≤ k) ∧ Aside0 (Kd.R k24 24 w' w.heap.size (fun k_ => k_ ≠ gb243 ∧ k_ ≠ gb244) u245003 x245003_1) ∧ Aside0 (w'.heap[gb242]? = some (.cells #[.int .i64 a0_0, .int .i64 a0_1, .string a0_2, (.slice A0_3 l0_3.length c0_3)] 32 (0, 0))) ∧ Aside0 (w'.heap[gb243]? = some (.cells #[.int .i64 0, .int .i64 0, .string (⟨#[]⟩ : ByteArray), (.slice none 0 0)] 24 (0, 0))) ∧ Aside0 (w'.heap[gb244]? = some (.cells #[.int .i64 a0_0, .int .i64 a0_1, .string a0_2, u245003] 24 (0, 0))) ∧ Aside0 (Below w.heap.size w w'))
  case atStart => exact ⟨(0), (([] : List (S24))), (.slice none 0 0), (by first | rfl | (simp; done) | (simp [*]; done)), H', ⟨Nat.le_refl _⟩, ⟨by first | exact Kd.R_nil _ _ _ _ _ | exact Kd.N_nil _ _ _ _ _ | exact Kd.V_nil _ _ _ _ _ | exact Kd.Q_nil _ _ _ _ _ | exact Kd.S_nil _ _ _ _ _⟩, ⟨by (with_reducible repeat (first | refine blk_drewN ?_ _ | refine blk_drew ?_ | refine blk_alloc ?_ _)); refine blk_far ?_ NB242_244.out _; (with_reducible repeat (first | refine blk_drewN ?_ _ | refine blk_drew ?_ | refine blk_alloc ?_ _)); refine blk_far ?_ NB242_244.out _; (with_reducible repeat (first | refine blk_drewN ?_ _ | refine blk_drew ?_ | refine blk_alloc ?_ _)); refine blk_far ?_ NB242_244.out _; (with_reducible repeat (first | refine blk_drewN ?_ _ | refine blk_drew ?_ | refine blk_alloc ?_ _)); refine blk_far ?_ NB242_244.out _; (with_reducible repeat (first | refine blk_drewN ?_ _ | refine blk_drew ?_ | refine blk_alloc ?_ _)); exact BK242.out⟩, ⟨by (with_reducible repeat (first | refine blk_drewN ?_ _ | refine blk_drew ?_ | refine blk_alloc ?_ _)); refine blk_far ?_ NB243_244.out _; (with_reducible repeat (first | refine blk_drewN ?_ _ | refine blk_drew ?_ | refine blk_alloc ?_ _)); refine blk_far ?_ NB243_244.out _; (with_reducible repeat (first | refine blk_drewN ?_ _ | refine blk_drew ?_ | refine blk_alloc ?_ _)); refine blk_far ?_ NB243_244.out _; (with_reducible repeat (first | refine blk_drewN ?_ _ | refine blk_drew ?_ | refine blk_alloc ?_ _)); refine blk_far ?_ NB243_244.out _; (with_reducible repeat (first | refine blk_drewN ?_ _ | refine blk_drew ?_ | refine blk_alloc ?_ _)); exact BK243.out⟩, ⟨by (with_reducible repeat (first | refine blk_drewN ?_ _ | refine blk_drew ?_ | refine blk_alloc ?_ _)); refine blk_put (cs := #[.int .i64 a0_0, .int .i64 a0_1, .string a0_2, .slice none 0 0]) ?_ 3 _ rfl; (with_reducible repeat (first | refine blk_drewN ?_ _ | refine blk_drew ?_ | refine blk_alloc ?_ _)); refine blk_put (cs := #[.int .i64 a0_0, .int .i64 a0_1, .string (⟨#[]⟩ : ByteArray), .slice none 0 0]) ?_ 2 _ rfl; (with_reducible repeat (first | refine blk_drewN ?_ _ | refine blk_drew ?_ | refine blk_alloc ?_ _)); refine blk_put (cs := #[.int .i64 a0_0, .int .i64 0, .string (⟨#[]⟩ : ByteArray), .slice none 0 0]) ?_ 1 _ rfl; (with_reducible repeat (first | refine blk_drewN ?_ _ | refine blk_drew ?_ | refine blk_alloc ?_ _)); refine blk_put (cs := #[.int .i64 0, .int .i64 0, .string (⟨#[]⟩ : ByteArray), .slice none 0 0]) ?_ 0 _ rfl; (with_reducible repeat (first | refine blk_drewN ?_ _ | refine blk_drew ?_ | refine blk_alloc ?_ _)); exact BK244.out⟩, ⟨by repeat (first | (with_reducible first | exact HB.out | apply below_alloc | apply pw_below_drewN | apply below_drew1 | refine below_set ?_ GE242.out | refine below_set ?_ GE243.out | refine below_set ?_ GE244.out) | exact HB.out)⟩⟩
  case round =>
    clear H'
    try clear c2
    try clear p2
    try clear c4
    try clear c7
    try clear c8
    try clear hcz5_0
    try clear hcz5_1
    try clear hcz5_2
    try clear hcz5_3
    try clear hcz9_0
    try clear hcz9_1
    try clear hcz9_2
    try clear hcz9_3
    try clear hfz5_0
    try clear hfz5_1
    try clear hfz5_2
    try clear hfz5_3
    try clear hfz9_0
    try clear hfz9_1
    try clear hfz9_2
    try clear hfz9_3
    obtain ⟨x4_1, x245003_1, u245003, rfl, HA, HK1, HO_245003, BK242, BK243, BK244, HB⟩ := hrel
    cases gk with
    | zero => exact absurd HA.out (by simp [gangsawlaw02_mine.l0])
    | succ k1 =>
      have H := HA.out
      clear HA
      simp only [gangsawlaw02_mine.l0] at H
      by_cases c10 : x4_1 < (l0_3.length : Int)
      · rw [if_pos c10] at H
        have c10b0 : decide (x4_1 < (l0_3.length : Int)) = true := decide_eq_true c10
        clear c10
        by_cases c11 : 0 ≤ x4_1
        · rw [if_pos c11] at H
          have c11b0 : decide (0 ≤ x4_1) = true := decide_eq_true c11
          clear c11
          replace H := Option.bind_eq_some_iff.mp H
          obtain ⟨⟨t246, t247, t248, t249⟩, A120, H⟩ := H
          replace H : (if x245003_1.length < 2513169434916 then (gangsawlaw02_mine.l0 k1 (wrap64 (x4_1 + 1)) a0_0 a0_1 a0_2 l0_3 a0_0 a0_1 a0_2 (x245003_1 ++ [(⟨t246, t247, t248, t249⟩ : S24)])) else (none)) = some (r1, r2, r3, r4) := H
          have A12 := Aside0.mk A120
          clear A120
          by_cases c13 : x245003_1.length < 2513169434916
          · rw [if_pos c13] at H
            have LMc13 := Aside0.mk c13
            clear c13
            obtain ⟨y252, hy252⟩ : ∃ y_ : List (S24), y_ = (x245003_1 ++ [(⟨t246, t247, t248, t249⟩ : S24)]) := ⟨_, rfl⟩
            replace H : (gangsawlaw02_mine.l0 k1 (wrap64 (x4_1 + 1)) a0_0 a0_1 a0_2 l0_3 a0_0 a0_1 a0_2 y252) = some (r1, r2, r3, r4) := by first | (rw [hy252]; with_reducible exact H) | (have H2_ := (Option.bind_some _ _).symm.trans H; rw [hy252]; with_reducible exact H2_) | (have H2_ := (Option.bind_some _ _).symm.trans H; with_reducible exact H2_) | with_reducible exact H | (rw [hy252]; exact H) | exact H
            have Ny252 := Aside0.mk hy252
            clear hy252
            have H' := Aside0.mk H
            clear H
            have hnb14 := NB242_243.out
            have hnc14 := NB243_242.out
            have hnb15 := NB242_244.out
            have hnc15 := NB244_242.out
            have hcz16_0 : wr.cell? ⟨gb242, 0, none⟩ = some (.int .i64 a0_0) := (blk_cell BK242.out 0).trans rfl
            have hcz16_1 : wr.cell? ⟨gb242, 1, none⟩ = some (.int .i64 a0_1) := (blk_cell BK242.out 1).trans rfl
            have hcz16_2 : wr.cell? ⟨gb242, 2, none⟩ = some (.string a0_2) := (blk_cell BK242.out 2).trans rfl
            have hcz16_3 : wr.cell? ⟨gb242, 3, none⟩ = some (.slice A0_3 l0_3.length c0_3) := (blk_cell BK242.out 3).trans rfl
            have hfz16_0 := blk_frozen BK242.out 0
            have hfz16_1 := blk_frozen BK242.out 1
            have hfz16_2 := blk_frozen BK242.out 2
            have hfz16_3 := blk_frozen BK242.out 3
            try go_wp2
            have n0_ := Aside0.mk (Kd.R_drew HO_245003.out)
            have n1_ := Aside0.mk (blk_drew BK242.out)
            have n2_ := Aside0.mk (blk_drew BK243.out)
            have n3_ := Aside0.mk (blk_drew BK244.out)
            have n4_ := Aside0.mk (below_drew1 HB.out)
            clear HO_245003
            clear BK242
            clear BK243
            clear BK244
            clear HB
            have HO_245003 := n0_
            have BK242 := n1_
            have BK243 := n2_
            have BK244 := n3_
            have HB := n4_
            clear n0_ n1_ n2_ n3_ n4_
            have p245 : 0 ≤ (x4_1 : Int) := of_decide_eq_true (by first | (with_reducible assumption) | assumption)
            have q245 : x4_1 < (l0_3.length : Int) := of_decide_eq_true (by first | (with_reducible assumption) | assumption)
            obtain ⟨ad245, A245_3, c245_3, e245, hx245_0, hx245_1, hx245_2, hx245_3, hl245_3, hi245_3⟩ := at_T32 HR0_3.out x4_1 p245 q245
            have hw245_3 := hx245_3
            have hw245_2 := hx245_2
            have hw245_1 := hx245_1
            have hw245_0 := hx245_0
            cases e245
            replace hx245_0 := (HB.out.cell (World.block_lt_of_cell? w _ hx245_0)).trans hx245_0
            replace hx245_1 := (HB.out.cell (World.block_lt_of_cell? w _ hx245_1)).trans hx245_1
            replace hx245_2 := (HB.out.cell (World.block_lt_of_cell? w _ hx245_2)).trans hx245_2
            replace hx245_3 := (HB.out.cell (World.block_lt_of_cell? w _ hx245_3)).trans hx245_3
            have HR245_3 := Aside0.mk hi245_3
            have HC245_3 := Aside0.mk hl245_3
            clear hi245_3 hl245_3
            replace p245 := eq_true p245
            replace q245 := eq_true q245
            refine start_ (n := 12) (S := fun w' => w'.cell? ⟨gb244, 0, none⟩ = some (.int .i64 a0_0) ∧ w'.cell? ⟨gb244, 1, none⟩ = some (.int .i64 a0_1) ∧ w'.cell? ⟨gb244, 2, none⟩ = some (.string a0_2) ∧ w'.cell? ⟨gb244, 3, none⟩ = some (u245003) ∧ w'.cell? ⟨gb242, 0, none⟩ = some (.int .i64 a0_0) ∧ w'.cell? ⟨gb242, 1, none⟩ = some (.int .i64 a0_1) ∧ w'.cell? ⟨gb242, 2, none⟩ = some (.string a0_2) ∧ w'.cell? ⟨gb242, 3, none⟩ = some (.slice (some ad245) l0_3.length c0_3) ∧ w'.cell? (ad245.add ((x4_1).toNat * 4)) = some (.int .i64 ((rd_T32 l0_3 x4_1).f0)) ∧ w'.cell? ⟨(ad245.add ((x4_1).toNat * 4)).block, (ad245.add ((x4_1).toNat * 4)).off + 1, none⟩ = some (.int .i64 ((rd_T32 l0_3 x4_1).f1)) ∧ w'.cell? ⟨(ad245.add ((x4_1).toNat * 4)).block, (ad245.add ((x4_1).toNat * 4)).off + 2, none⟩ = some (.string ((rd_T32 l0_3 x4_1).f2)) ∧ w'.cell? ⟨(ad245.add ((x4_1).toNat * 4)).block, (ad245.add ((x4_1).toNat * 4)).off + 3, none⟩ = some (.slice A245_3 ((rd_T32 l0_3 x4_1).f3).length c245_3)) (ds := [11]) #[false, false, false, false, false, false, false, false, false, false, false, false] (by kernel_rfl) rfl rfl ⟨(blk_cell BK244.out 0).trans rfl, (blk_cell BK244.out 1).trans rfl, (blk_cell BK244.out 2).trans rfl, (blk_cell BK244.out 3).trans rfl, (blk_cell BK242.out 0).trans rfl, (blk_cell BK242.out 1).trans rfl, (blk_cell BK242.out 2).trans rfl, (blk_cell BK242.out 3).trans rfl, ((HB.out.cell (World.block_lt_of_cell? w _ hw245_0)).trans hw245_0), ((HB.out.cell (World.block_lt_of_cell? w _ hw245_1)).trans hw245_1), ((HB.out.cell (World.block_lt_of_cell? w _ hw245_2)).trans hw245_2), ((HB.out.cell (World.block_lt_of_cell? w _ hw245_3)).trans hw245_3)⟩ (fun hHeld => ?_); refine with_tabW gangsawlaw02_mine.tab5 gangsawlaw02_mine.bits5 (fun HT_ HW_ => ?_)
            generalize wr.drew = w17 at HO_245003 BK242 BK243 BK244 HB HR245_3 hx245_0 hx245_1 hx245_2 hx245_3 hHeld ⊢
            refine pure_ (i := 0) (N := some 19) (v := ?_) (a' := ?_) #[true, false, false, false, false, false, false, false, false, false, false, false] rfl rfl (any_of HT_.out (by kernel_rfl)) (fun _ _ _ h => h) (Or.inl ⟨by rfl, ?_⟩) ?_ ?_
            rotate_left
            · intro w'
              go_simp
              with_reducible rfl
            rotate_left
            · simp only [Act.put, List.setIfInBounds_toArray, List.set_cons_zero, List.set_cons_succ, i64_w, i32_w]
              rfl
            refine pure_ (i := 2) (N := some 21) (v := ?_) (a' := ?_) #[true, false, true, false, false, false, false, false, false, false, false, false] rfl rfl (any_of HT_.out (by kernel_rfl)) (fun _ _ _ h => h) (Or.inl ⟨by rfl, ?_⟩) ?_ ?_
            rotate_left
            · intro w'
              go_simp
              with_reducible rfl
            rotate_left
            · simp only [Act.put, List.setIfInBounds_toArray, List.set_cons_zero, List.set_cons_succ, i64_w, i32_w]
              rfl
            refine pure_ (i := 4) (N := some 23) (v := ?_) (a' := ?_) #[true, false, true, false, true, false, false, false, false, false, false, false] rfl rfl (any_of HT_.out (by kernel_rfl)) (fun _ _ _ h => h) (Or.inl ⟨by rfl, ?_⟩) ?_ ?_
            rotate_left
            · intro w'
              go_simp
              with_reducible rfl
            rotate_left
            · simp only [Act.put, List.setIfInBounds_toArray, List.set_cons_zero, List.set_cons_succ, i64_w, i32_w]
              rfl
            refine take_ (i := 1) (N := some 20) (v := ?_) (a' := ?_) #[true, true, true, false, true, false, false, false, false, false, false, false] rfl rfl (take_ofW HT_.out HW_.out (by kernel_rfl)) (fun _ _ _ h => h) (Or.inl ⟨by rfl, ?_⟩) hHeld ?_ ?_
            rotate_left
            · rintro w' ⟨s0, s1, s2, s3, s4, s5, s6, s7, s8, s9, s10, s11⟩
              go_simp
              with_reducible rfl
            rotate_left
            · simp only [Act.put, List.setIfInBounds_toArray, List.set_cons_zero, List.set_cons_succ, i64_w, i32_w]
              rfl
            refine take_ (i := 3) (N := some 22) (v := ?_) (a' := ?_) #[true, true, true, true, true, false, false, false, false, false, false, false] rfl rfl (take_ofW HT_.out HW_.out (by kernel_rfl)) (fun _ _ _ h => h) (Or.inl ⟨by rfl, ?_⟩) hHeld ?_ ?_
            rotate_left
            · rintro w' ⟨s0, s1, s2, s3, s4, s5, s6, s7, s8, s9, s10, s11⟩
              go_simp
              with_reducible rfl
            rotate_left
            · simp only [Act.put, List.setIfInBounds_toArray, List.set_cons_zero, List.set_cons_succ, i64_w, i32_w]
              rfl
            refine pure_ (i := 5) (N := some 24) (v := ?_) (a' := ?_) #[true, true, true, true, true, true, false, false, false, false, false, false] rfl rfl (any_of HT_.out (by kernel_rfl)) (fun _ _ _ h => h) (Or.inl ⟨by rfl, ?_⟩) ?_ ?_
            rotate_left
            · intro w'
              go_simp
              with_reducible rfl
            rotate_left
            · simp only [Act.put, List.setIfInBounds_toArray, List.set_cons_zero, List.set_cons_succ, i64_w, i32_w]
              rfl
            refine take_ (i := 6) (N := some 25) (v := ?_) (a' := ?_) #[true, true, true, true, true, true, true, false, false, false, false, false] rfl rfl (take_ofW HT_.out HW_.out (by kernel_rfl)) (fun _ _ _ h => h) (Or.inl ⟨by rfl, ?_⟩) hHeld ?_ ?_
            rotate_left
            · rintro w' ⟨s0, s1, s2, s3, s4, s5, s6, s7, s8, s9, s10, s11⟩
              go_simp
              with_reducible rfl
            rotate_left
            · simp only [Act.put, List.setIfInBounds_toArray, List.set_cons_zero, List.set_cons_succ, i64_w, i32_w]
              rfl
            refine one_ (i := 7) (N := some 26) #[true, true, true, true, true, true, true, true, false, false, false, false] rfl rfl (one_of HT_.out (by kernel_rfl)) (by decide) (fun K hK => ?_)
            refine goes_ Tryd.func23 (by kernel_rfl) rfl #[.agg #[.int .i64 ((rd_T32 l0_3 x4_1).f0), .int .i64 ((rd_T32 l0_3 x4_1).f1), .string ((rd_T32 l0_3 x4_1).f2), .slice A245_3 ((rd_T32 l0_3 x4_1).f3).length c245_3]] (by rfl) rfl rfl (by (try simp only [List.map_toArray, List.map_cons, List.map_nil]); first | done | rfl | (simp only [List.length_drop, List.length_take]; rfl)) ?_
            with_reducible refine (ih k1 (by have := HK1.out; omega) ((rd_T32 l0_3 x4_1).f0) ((rd_T32 l0_3 x4_1).f1) ((rd_T32 l0_3 x4_1).f2) _ _ ((rd_T32 l0_3 x4_1).f3) t246 t247 t248 t249 _ ?side1 ?side2 A12.out).mono ?_
            (case side1 => repeat (first | exact (Kd.C_below HR245_3.out HB.out) | (with_reducible refine Kd.C_alloc ?_ _) | (with_reducible refine Kd.C_drewN ?_ _) | (with_reducible refine Kd.C_drew ?_)))
            (case side2 => exact HC245_3.out)
            rintro e w18 ⟨v250, rfl, ho0, hb⟩
            refine ⟨_, rfl, ?_⟩
            have n0_ := Aside0.mk (Kd.R_elder' (by (with_reducible repeat (first | apply Kd.R_alloc | apply Kd.R_drewN | apply Kd.R_drew)); exact HO_245003.out) (Kd.R_base ho0) hb)
            have n1_ := Aside0.mk (Kd.R_lower (Kd.R_newB (Kd.R_newB (Kd.R_new' ho0 (Kd.R_lt (by (with_reducible repeat (first | apply Kd.R_alloc | apply Kd.R_drewN | apply Kd.R_drew)); exact HO_245003.out))) (g := gb243) (o := .cells #[.int .i64 0, .int .i64 0, .string (⟨#[]⟩ : ByteArray), .slice none 0 0] 24 (0, 0)) (by (with_reducible repeat (first | refine blk_drewN ?_ _ | refine blk_drew ?_ | refine blk_alloc ?_ _)); exact BK243.out)) (g := gb244) (o := .cells #[.int .i64 a0_0, .int .i64 a0_1, .string a0_2, u245003] 24 (0, 0)) (by (with_reducible repeat (first | refine blk_drewN ?_ _ | refine blk_drew ?_ | refine blk_alloc ?_ _)); exact BK244.out)) (below_size (by repeat (first | (with_reducible first | exact HB.out | apply below_alloc | apply pw_below_drewN | apply below_drew1 | refine below_set ?_ GE242.out | refine below_set ?_ GE243.out | refine below_set ?_ GE244.out) | exact HB.out))))
            have n2_ := Aside0.mk (blk_below (g := gb242) (o := .cells #[.int .i64 a0_0, .int .i64 a0_1, .string a0_2, .slice (some ad245) l0_3.length c0_3] 32 (0, 0)) (by (with_reducible repeat (first | refine blk_drewN ?_ _ | refine blk_drew ?_ | refine blk_alloc ?_ _)); exact BK242.out) hb)
            have n3_ := Aside0.mk (blk_below (g := gb243) (o := .cells #[.int .i64 0, .int .i64 0, .string (⟨#[]⟩ : ByteArray), .slice none 0 0] 24 (0, 0)) (by (with_reducible repeat (first | refine blk_drewN ?_ _ | refine blk_drew ?_ | refine blk_alloc ?_ _)); exact BK243.out) hb)
            have n4_ := Aside0.mk (blk_below (g := gb244) (o := .cells #[.int .i64 a0_0, .int .i64 a0_1, .string a0_2, u245003] 24 (0, 0)) (by (with_reducible repeat (first | refine blk_drewN ?_ _ | refine blk_drew ?_ | refine blk_alloc ?_ _)); exact BK244.out) hb)
            have n5_ := Aside0.mk (below_step (by repeat (first | (with_reducible first | exact HB.out | apply below_alloc | apply pw_below_drewN | apply below_drew1 | refine below_set ?_ GE242.out | refine below_set ?_ GE243.out | refine below_set ?_ GE244.out) | exact HB.out)) hb)
            clear HO_245003
            clear BK242
            clear BK243
            clear BK244
            clear HB
            have HO_245003 := n0_
            have HO251 := n1_
            have BK242 := n2_
            have BK243 := n3_
            have BK244 := n4_
            have HB := n5_
            clear n0_ n1_ n2_ n3_ n4_ n5_
            (try clear hb)
            (try clear hb2)
            (try clear hk)
            (try clear hi)
            (try clear ho0)
            obtain ⟨Ao20, co20, eo20⟩ := Kd.R_slice HO251.out
            (first | subst eo20 | (injection eo20 with f1_ f2_ f3_; have f4_ := f1_.symm; have f5_ := f3_.symm; clear f1_ f2_ f3_; subst f4_; subst f5_))
            refine hK.out _ _ ⟨(blk_cell BK244.out 0).trans rfl, (blk_cell BK244.out 1).trans rfl, (blk_cell BK244.out 2).trans rfl, (blk_cell BK244.out 3).trans rfl, (blk_cell BK242.out 0).trans rfl, (blk_cell BK242.out 1).trans rfl, (blk_cell BK242.out 2).trans rfl, (blk_cell BK242.out 3).trans rfl, ((HB.out.cell (World.block_lt_of_cell? w _ hw245_0)).trans hw245_0), ((HB.out.cell (World.block_lt_of_cell? w _ hw245_1)).trans hw245_1), ((HB.out.cell (World.block_lt_of_cell? w _ hw245_2)).trans hw245_2), ((HB.out.cell (World.block_lt_of_cell? w _ hw245_3)).trans hw245_3)⟩ (fun hHeld => ?_)
            clear hK K
            refine norm_ (a' := ?_) ?_ ?_
            rotate_left
            · show Act.put _ (some 26) _ = _
              simp only [Act.put, List.setIfInBounds_toArray, List.set_cons_zero, List.set_cons_succ, i64_w, i32_w]
              rfl
            refine one_ (i := 8) (N := some 27) #[true, true, true, true, true, true, true, true, true, false, false, false] rfl rfl (one_of HT_.out (by kernel_rfl)) (by decide) (fun K hK => ?_)
            refine value_ (w1 := ?_) (v := ?_) (by rfl) rfl ?_ ?_
            rotate_left 2
            · go_simp
              constructor
              · rfl
              · rfl
            refine hK.out _ _ ⟨(blk_cell (blk_alloc BK244.out _) 0).trans rfl, (blk_cell (blk_alloc BK244.out _) 1).trans rfl, (blk_cell (blk_alloc BK244.out _) 2).trans rfl, (blk_cell (blk_alloc BK244.out _) 3).trans rfl, (blk_cell (blk_alloc BK242.out _) 0).trans rfl, (blk_cell (blk_alloc BK242.out _) 1).trans rfl, (blk_cell (blk_alloc BK242.out _) 2).trans rfl, (blk_cell (blk_alloc BK242.out _) 3).trans rfl, (World.cell?_alloc_lt _ _ _ (World.block_lt_of_cell? _ _ (((HB.out.cell (World.block_lt_of_cell? w _ hw245_0)).trans hw245_0)))).trans (((HB.out.cell (World.block_lt_of_cell? w _ hw245_0)).trans hw245_0)), (World.cell?_alloc_lt _ _ _ (World.block_lt_of_cell? _ _ (((HB.out.cell (World.block_lt_of_cell? w _ hw245_1)).trans hw245_1)))).trans (((HB.out.cell (World.block_lt_of_cell? w _ hw245_1)).trans hw245_1)), (World.cell?_alloc_lt _ _ _ (World.block_lt_of_cell? _ _ (((HB.out.cell (World.block_lt_of_cell? w _ hw245_2)).trans hw245_2)))).trans (((HB.out.cell (World.block_lt_of_cell? w _ hw245_2)).trans hw245_2)), (World.cell?_alloc_lt _ _ _ (World.block_lt_of_cell? _ _ (((HB.out.cell (World.block_lt_of_cell? w _ hw245_3)).trans hw245_3)))).trans (((HB.out.cell (World.block_lt_of_cell? w _ hw245_3)).trans hw245_3))⟩ (fun hHeld => ?_)
            clear hK K
            refine norm_ (a' := ?_) ?_ ?_
            rotate_left
            · show Act.put _ (some 27) _ = _
              simp only [Act.put, List.setIfInBounds_toArray, List.set_cons_zero, List.set_cons_succ, i64_w, i32_w]
              rfl
            refine one_ (i := 9) (N := some 28) #[true, true, true, true, true, true, true, true, true, true, false, false] rfl rfl (one_of HT_.out (by kernel_rfl)) (by decide) (fun K hK => ?_)
            refine Kd.R_append_step k24 (w0 := w) w.heap.size (by rfl) (.tmp 20) (.tmp 27) 22 24 (.agg #[(.int .i64 0), (.int .i64 0), (.string ⟨#[]⟩), (.slice none 0 0)]) 56 rfl Tryd.underlying22 info24 rfl (by decide) (by omega) u245003 x245003_1 (⟨t246, t247, t248, t249⟩ : S24) [.int .i64 t246, .int .i64 t247, .string t248, .slice Ao20 t249.length co20] (fun k_ => k_ ≠ gb243 ∧ k_ ≠ gb244) (fun k_ => ((fun k_ => k_ ≠ gb243 ∧ k_ ≠ gb244)) k_ ∧ some k_ ≠ (u245003 : Value).ownBlock) rfl rfl ?aP (fun _ hk => hk) ?aF ?aO ?aB ?aS ?aL ?_
            (case aP => exact k24_mkM _ _ _ (⟨t246, t247, t248, t249⟩ : S24) (Kd.R_mono (HO251.out) (fun k_ hk => ⟨⟨hk.1.2, hk.2⟩, hk.1.1.2⟩)))
            (case aB => exact (by repeat (first | (with_reducible first | exact HB.out | apply below_alloc | apply pw_below_drewN | apply below_drew1 | refine below_set ?_ GE242.out | refine below_set ?_ GE243.out | refine below_set ?_ GE244.out) | exact HB.out)))
            (case aF => exact (fun k_ hk => ⟨Kd.freshB (g := gb243) (o := .cells #[.int .i64 0, .int .i64 0, .string (⟨#[]⟩ : ByteArray), .slice none 0 0] 24 (0, 0)) (by (with_reducible repeat (first | refine blk_drewN ?_ _ | refine blk_drew ?_ | refine blk_alloc ?_ _)); exact BK243.out) k_ hk, Kd.freshB (g := gb244) (o := .cells #[.int .i64 a0_0, .int .i64 a0_1, .string a0_2, u245003] 24 (0, 0)) (by (with_reducible repeat (first | refine blk_drewN ?_ _ | refine blk_drew ?_ | refine blk_alloc ?_ _)); exact BK244.out) k_ hk⟩))
            (case aO => exact (by (with_reducible repeat (first | apply Kd.R_alloc | apply Kd.R_drewN | apply Kd.R_drew)); exact Kd.R_mono HO_245003.out (fun _ hk => ⟨hk.1.1, hk.1.2⟩)))
            (case aS => exact (below_size (by repeat (first | (with_reducible first | exact HB.out | apply below_alloc | apply pw_below_drewN | apply below_drew1 | refine below_set ?_ GE242.out | refine below_set ?_ GE243.out | refine below_set ?_ GE244.out) | exact HB.out))))
            (case aL => have := LMc13.out; omega)
            intro v253 w19 ho hb hg hat
            rw [← Ny252.out] at ho
            have n0_ := Aside0.mk (blk_grown (g := gb242) (o := .cells #[.int .i64 a0_0, .int .i64 a0_1, .string a0_2, .slice (some ad245) l0_3.length c0_3] 32 (0, 0)) (by (with_reducible repeat (first | refine blk_drewN ?_ _ | refine blk_drew ?_ | refine blk_alloc ?_ _)); exact BK242.out) hg (Kd.R_ne HO_245003.out BK242.out (by decide)))
            have n1_ := Aside0.mk (blk_grown (g := gb243) (o := .cells #[.int .i64 0, .int .i64 0, .string (⟨#[]⟩ : ByteArray), .slice none 0 0] 24 (0, 0)) (by (with_reducible repeat (first | refine blk_drewN ?_ _ | refine blk_drew ?_ | refine blk_alloc ?_ _)); exact BK243.out) hg (Kd.R_away HO_245003.out (fun _ hk => hk.1.1)))
            have n2_ := Aside0.mk (blk_grown (g := gb244) (o := .cells #[.int .i64 a0_0, .int .i64 a0_1, .string a0_2, u245003] 24 (0, 0)) (by (with_reducible repeat (first | refine blk_drewN ?_ _ | refine blk_drew ?_ | refine blk_alloc ?_ _)); exact BK244.out) hg (Kd.R_away HO_245003.out (fun _ hk => hk.1.2)))
            have n3_ := Aside0.mk (hb)
            have n4_ := Aside0.mk (ho)
            clear BK242
            clear BK243
            clear BK244
            clear HB
            clear HO_245003
            clear HO251
            have BK242 := n0_
            have BK243 := n1_
            have BK244 := n2_
            have HB := n3_
            have HO254 := n4_
            clear n0_ n1_ n2_ n3_ n4_
            clear ho hb hg hat
            obtain ⟨Ao21, co21, eo21⟩ := Kd.R_slice HO254.out
            (first | subst eo21 | (injection eo21 with f1_ f2_ f3_; have f4_ := f1_.symm; have f5_ := f3_.symm; clear f1_ f2_ f3_; subst f4_; subst f5_))
            refine hK.out _ _ ⟨(blk_cell BK244.out 0).trans rfl, (blk_cell BK244.out 1).trans rfl, (blk_cell BK244.out 2).trans rfl, (blk_cell BK244.out 3).trans rfl, (blk_cell BK242.out 0).trans rfl, (blk_cell BK242.out 1).trans rfl, (blk_cell BK242.out 2).trans rfl, (blk_cell BK242.out 3).trans rfl, ((HB.out.cell (World.block_lt_of_cell? w _ hw245_0)).trans hw245_0), ((HB.out.cell (World.block_lt_of_cell? w _ hw245_1)).trans hw245_1), ((HB.out.cell (World.block_lt_of_cell? w _ hw245_2)).trans hw245_2), ((HB.out.cell (World.block_lt_of_cell? w _ hw245_3)).trans hw245_3)⟩ (fun hHeld => ?_)
            clear hK K
            refine norm_ (a' := ?_) ?_ ?_
            rotate_left
            · show Act.put _ (some 28) _ = _
              simp only [Act.put, List.setIfInBounds_toArray, List.set_cons_zero, List.set_cons_succ, i64_w, i32_w]
              rfl
            refine pure_ (i := 10) (N := some 29) (v := ?_) (a' := ?_) #[true, true, true, true, true, true, true, true, true, true, true, false] rfl rfl (any_of HT_.out (by kernel_rfl)) (fun _ _ _ h => h) (Or.inl ⟨by rfl, ?_⟩) ?_ ?_
            rotate_left
            · intro w'
              go_simp
              with_reducible rfl
            rotate_left
            · simp only [Act.put, List.setIfInBounds_toArray, List.set_cons_zero, List.set_cons_succ, i64_w, i32_w]
              rfl
            refine last_ (i := 11) (N := none) #[true, true, true, true, true, true, true, true, true, true, true, true] rfl rfl (one_of HT_.out (by kernel_rfl)) (by decide) (fun K hK => ?_)
            have hs22 : w19.cell? ⟨gb244, 3, none⟩ = some (u245003) := (blk_cell BK244.out 3).trans rfl
            have hfs22 := blk_frozen BK244.out 3
            have hns22_0 := NB242_244.out
            have hns22_1 := NB243_244.out
            have hms22_0 := NB244_242.out
            have hms22_1 := NB244_243.out
            refine skip_ (w1 := ?_) (by rfl) rfl ?_ ?_
            rotate_left
            · go_simp
              rfl
            refine hK.out _ _ ?_
            clear hK K
            refine done_ (done_of HT_.out (by kernel_rfl)) ?_
            try go_wp2
            go_roundg k1
            case measure => have := HK1.out; omega
            case rel => exact ⟨(wrap64 (x4_1 + 1)), (y252), (.slice Ao21 y252.length co21), (by first | rfl | (simp; done) | (simp [*]; done)), H', ⟨by have := HK1.out; omega⟩, ⟨by (with_reducible repeat (first | apply Kd.R_alloc | apply Kd.R_drewN | apply Kd.R_drew)); exact Kd.R_mono (Kd.R_far (p := ⟨gb244, 3, none⟩) (Kd.R_mono HO254.out (fun k_ hk => (⟨hk, hk.2⟩ : _ ∧ k_ ≠ gb244))) (fun _ hk => hk.2) (.slice Ao21 y252.length co21)) (fun _ hk => ⟨hk.1.1, hk.1.2⟩)⟩, ⟨by (with_reducible repeat (first | refine blk_drewN ?_ _ | refine blk_drew ?_ | refine blk_alloc ?_ _)); refine blk_far ?_ NB242_244.out _; (with_reducible repeat (first | refine blk_drewN ?_ _ | refine blk_drew ?_ | refine blk_alloc ?_ _)); exact BK242.out⟩, ⟨by (with_reducible repeat (first | refine blk_drewN ?_ _ | refine blk_drew ?_ | refine blk_alloc ?_ _)); refine blk_far ?_ NB243_244.out _; (with_reducible repeat (first | refine blk_drewN ?_ _ | refine blk_drew ?_ | refine blk_alloc ?_ _)); exact BK243.out⟩, ⟨by (with_reducible repeat (first | refine blk_drewN ?_ _ | refine blk_drew ?_ | refine blk_alloc ?_ _)); refine blk_put (cs := #[.int .i64 a0_0, .int .i64 a0_1, .string a0_2, u245003]) ?_ 3 _ rfl; (with_reducible repeat (first | refine blk_drewN ?_ _ | refine blk_drew ?_ | refine blk_alloc ?_ _)); exact BK244.out⟩, ⟨by repeat (first | (with_reducible first | exact HB.out | apply below_alloc | apply pw_below_drewN | apply below_drew1 | refine below_set ?_ GE242.out | refine below_set ?_ GE243.out | refine below_set ?_ GE244.out) | exact HB.out)⟩⟩
          · rw [if_neg c13] at H
            exact absurd H (by simp)
        · rw [if_neg c11] at H
          exact absurd H (by simp)
      · rw [if_neg c10] at H
        have c10b0 : decide (x4_1 < (l0_3.length : Int)) = false := decide_eq_false c10
        clear c10
        simp only [Option.some.injEq, Prod.mk.injEq] at H
        obtain ⟨rfl, rfl, rfl, rfl⟩ := H
        have hnb23 := NB242_243.out
        have hnc23 := NB243_242.out
        have hnb24 := NB242_244.out
        have hnc24 := NB244_242.out
        have hcz25_0 : wr.cell? ⟨gb242, 0, none⟩ = some (.int .i64 a0_0) := (blk_cell BK242.out 0).trans rfl
        have hcz25_1 : wr.cell? ⟨gb242, 1, none⟩ = some (.int .i64 a0_1) := (blk_cell BK242.out 1).trans rfl
        have hcz25_2 : wr.cell? ⟨gb242, 2, none⟩ = some (.string a0_2) := (blk_cell BK242.out 2).trans rfl
        have hcz25_3 : wr.cell? ⟨gb242, 3, none⟩ = some (.slice A0_3 l0_3.length c0_3) := (blk_cell BK242.out 3).trans rfl
        have hfz25_0 := blk_frozen BK242.out 0
        have hfz25_1 := blk_frozen BK242.out 1
        have hfz25_2 := blk_frozen BK242.out 2
        have hfz25_3 := blk_frozen BK242.out 3
        have hnb26 := NB244_243.out
        have hnc26 := NB243_244.out
        have hcz27_0 : wr.cell? ⟨gb244, 0, none⟩ = some (.int .i64 a0_0) := (blk_cell BK244.out 0).trans rfl
        have hcz27_1 : wr.cell? ⟨gb244, 1, none⟩ = some (.int .i64 a0_1) := (blk_cell BK244.out 1).trans rfl
        have hcz27_2 : wr.cell? ⟨gb244, 2, none⟩ = some (.string a0_2) := (blk_cell BK244.out 2).trans rfl
        have hcz27_3 : wr.cell? ⟨gb244, 3, none⟩ = some (u245003) := (blk_cell BK244.out 3).trans rfl
        have hfz27_0 := blk_frozen BK244.out 0
        have hfz27_1 := blk_frozen BK244.out 1
        have hfz27_2 := blk_frozen BK244.out 2
        have hfz27_3 := blk_frozen BK244.out 3
        have hcz28_0 : wr.cell? ⟨gb243, 0, none⟩ = some (.int .i64 0) := (blk_cell BK243.out 0).trans rfl
        have hcz28_1 : wr.cell? ⟨gb243, 1, none⟩ = some (.int .i64 0) := (blk_cell BK243.out 1).trans rfl
        have hcz28_2 : wr.cell? ⟨gb243, 2, none⟩ = some (.string (⟨#[]⟩ : ByteArray)) := (blk_cell BK243.out 2).trans rfl
        have hcz28_3 : wr.cell? ⟨gb243, 3, none⟩ = some (.slice none 0 0) := (blk_cell BK243.out 3).trans rfl
        have hfz28_0 := blk_frozen BK243.out 0
        have hfz28_1 := blk_frozen BK243.out 1
        have hfz28_2 := blk_frozen BK243.out 2
        have hfz28_3 := blk_frozen BK243.out 3
        obtain ⟨Ao29, co29, eo29⟩ := Kd.R_slice HO_245003.out
        subst eo29
        go_wp2
        refine bodyPost_ret (results_cell_row rfl _ _ gb243 24 #[.int .i64 a0_0, .int .i64 a0_1, .string a0_2, .slice Ao29 x245003_1.length co29] (0, 0) _ rfl (by (with_reducible repeat (first | refine blk_drewN ?_ _ | refine blk_drew ?_ | refine blk_alloc ?_ _)); refine blk_put (cs := #[.int .i64 a0_0, .int .i64 a0_1, .string a0_2, .slice none 0 0]) ?_ 3 _ rfl; (with_reducible repeat (first | refine blk_drewN ?_ _ | refine blk_drew ?_ | refine blk_alloc ?_ _)); refine blk_put (cs := #[.int .i64 a0_0, .int .i64 a0_1, .string (⟨#[]⟩ : ByteArray), .slice none 0 0]) ?_ 2 _ rfl; (with_reducible repeat (first | refine blk_drewN ?_ _ | refine blk_drew ?_ | refine blk_alloc ?_ _)); refine blk_put (cs := #[.int .i64 a0_0, .int .i64 0, .string (⟨#[]⟩ : ByteArray), .slice none 0 0]) ?_ 1 _ rfl; (with_reducible repeat (first | refine blk_drewN ?_ _ | refine blk_drew ?_ | refine blk_alloc ?_ _)); refine blk_put (cs := #[.int .i64 0, .int .i64 0, .string (⟨#[]⟩ : ByteArray), .slice none 0 0]) ?_ 0 _ rfl; (with_reducible repeat (first | refine blk_drewN ?_ _ | refine blk_drew ?_ | refine blk_alloc ?_ _)); exact BK243.out) Tryd.underlying24 rfl (by kernel_rfl)) rfl ?_
        exact ⟨_, by first | rfl | (simp [errW_none, errW_some] <;> rfl) | (simp [*, errW_none, errW_some] <;> rfl), by (with_reducible repeat (first | apply Kd.R_alloc | apply Kd.R_drewN | apply Kd.R_drew)); exact Kd.R_mono (Kd.R_far (p := ⟨gb243, 3, none⟩) (Kd.R_far (p := ⟨gb243, 2, none⟩) (Kd.R_far (p := ⟨gb243, 1, none⟩) (Kd.R_far (p := ⟨gb243, 0, none⟩) (Kd.R_mono HO_245003.out (fun k_ hk => (⟨hk, hk.1⟩ : _ ∧ k_ ≠ gb243))) (fun _ hk => hk.2) (.int .i64 a0_0)) (fun _ hk => hk.2) (.int .i64 a0_1)) (fun _ hk => hk.2) (.string a0_2)) (fun _ hk => hk.2) (.slice Ao29 x245003_1.length co29)) (fun _ hk => trivial), by repeat (first | (with_reducible first | exact HB.out | apply below_alloc | apply pw_below_drewN | apply below_drew1 | refine below_set ?_ GE242.out | refine below_set ?_ GE243.out | refine below_set ?_ GE244.out) | exact HB.out)⟩
end Go.Proofs.YtcmphojichgfeaaDoor.QC
