-- Written by a program of this seat, out of the translation. Not trusted: Lean checks it.
import Derived.Test.YtdfcphfoccgopaaQT0
import Derived.Test.YtdfcphfoccgopaaQT2
import Derived.Test.YtdfcphfoccgopaaQT3
namespace Go.Proofs.Ytdfcphfoccgopaa.QT
open Go.RowKit Go.Proofs.YtdfcphfoccgopaaW.PrintWords Go.Proofs.YtdfcphfoccgopaaW.PrintLast Go.Proofs.YtdfcphfoccgopaaW.PrintMore
attribute [local go_sem] max2_int min2_int max_two min_two max_three min_three max_four min_four   -- for this text's walks alone
set_option linter.unusedVariables false
set_option linter.unusedSimpArgs false

/-! ### R_Trim: function 37 -/
mutual
def R_Trim.l0 : Nat → Int → List (S27) → Int → Int → Int → Int → Int → Int → Int → Int → Int → Int → Int → Int → Int → Int → Option ((List (S27)) × Int)
 | 0, _, _, _, _, _, _, _, _, _, _, _, _, _, _, _, _ => none
 | k + 1, x2, x8, x9, x10, x116000, x116001, x116002, x116003, x116004, x116005, x117000, x117001, x117002, x117003, x117004, x117005 => if x10 < 3 then ((R_Get.f x117000 x117001 x117002 x10).bind fun t120 => ((R_Get.f x117003 x117004 x117005 x10).bind fun t121 => ((R_Get.f x116000 x116001 x116002 x10).bind fun t122 => (if (wrap64 (t120 - t122)) > 0 then ((R_Put.f x116000 x116001 x116002 x10 (wrap64 (t120 - (mn (wrap64 (t120 - t122)) x2)))).bind fun bt124 => ((R_Put.f x116003 x116004 x116005 x10 t120).bind fun bt127 => ((R_Volume.f bt124.1 bt124.2.1 bt124.2.2 bt127.1 bt127.2.1 bt127.2.2).bind fun t130 => (if (wrap64 (t120 - t122)) > x2 then (if x8.length < 5864062014805 then ((R_Put.f x116000 x116001 x116002 x10 t120).bind fun bt134 => (R_Trim.j1 k x2 (x8 ++ [(⟨x10, wrap64 (t120 - x2), x2⟩ : S27)]) (wrap64 (x9 + t130)) x10 t121 bt134.1 bt134.2.1 bt134.2.2 x116003 x116004 x116005 x117000 x117001 x117002 x117003 x117004 x117005)) else (none)) else ((R_Put.f x116000 x116001 x116002 x10 t120).bind fun bt137 => (R_Trim.j1 k x2 x8 (wrap64 (x9 + t130)) x10 t121 bt137.1 bt137.2.1 bt137.2.2 x116003 x116004 x116005 x117000 x117001 x117002 x117003 x117004 x117005)))))) else (R_Trim.j1 k x2 x8 x9 x10 t121 x116000 x116001 x116002 x116003 x116004 x116005 x117000 x117001 x117002 x117003 x117004 x117005))))) else (some (x8, x9))
def R_Trim.j1 : Nat → Int → List (S27) → Int → Int → Int → Int → Int → Int → Int → Int → Int → Int → Int → Int → Int → Int → Int → Option ((List (S27)) × Int)
 | 0, _, _, _, _, _, _, _, _, _, _, _, _, _, _, _, _, _ => none
 | k + 1, x2, x8, x9, x10, x12, x116000, x116001, x116002, x116003, x116004, x116005, x117000, x117001, x117002, x117003, x117004, x117005 => (R_Get.f x116003 x116004 x116005 x10).bind fun t140 => (if (wrap64 (t140 - x12)) > 0 then ((R_Put.f x116000 x116001 x116002 x10 x12).bind fun bt142 => ((R_Put.f x116003 x116004 x116005 x10 (wrap64 (x12 + (mn (wrap64 (t140 - x12)) x2)))).bind fun bt145 => ((R_Volume.f bt142.1 bt142.2.1 bt142.2.2 bt145.1 bt145.2.1 bt145.2.2).bind fun t148 => (if (wrap64 (t140 - x12)) > x2 then (if x8.length < 5864062014805 then ((R_Put.f x116003 x116004 x116005 x10 x12).bind fun bt152 => (R_Trim.l0 k x2 (x8 ++ [(⟨x10, x12, x2⟩ : S27)]) (wrap64 (x9 + t148)) (wrap64 (x10 + 1)) x116000 x116001 x116002 bt152.1 bt152.2.1 bt152.2.2 x117000 x117001 x117002 x117003 x117004 x117005)) else (none)) else ((R_Put.f x116003 x116004 x116005 x10 x12).bind fun bt155 => (R_Trim.l0 k x2 x8 (wrap64 (x9 + t148)) (wrap64 (x10 + 1)) x116000 x116001 x116002 bt155.1 bt155.2.1 bt155.2.2 x117000 x117001 x117002 x117003 x117004 x117005)))))) else (R_Trim.l0 k x2 x8 x9 (wrap64 (x10 + 1)) x116000 x116001 x116002 x116003 x116004 x116005 x117000 x117001 x117002 x117003 x117004 x117005))
end
def R_Trim.f (k : Nat) (a0_0 : Int) (a0_1 : Int) (a0_2 : Int) (a0_3 : Int) (a0_4 : Int) (a0_5 : Int) (a1_0 : Int) (a1_1 : Int) (a1_2 : Int) (a1_3 : Int) (a1_4 : Int) (a1_5 : Int) (a2 : Int) : Option ((List (S27)) × Int) := R_Trim.l0 k a2 (([] : List (S27))) 0 0 a0_0 a0_1 a0_2 a0_3 a0_4 a0_5 a1_0 a1_1 a1_2 a1_3 a1_4 a1_5
theorem R_Trim.mono_l : ∀ k, (∀ y0 y1 y2 y3 y4 y5 y6 y7 y8 y9 y10 y11 y12 y13 y14 y15, LeO (R_Trim.l0 k y0 y1 y2 y3 y4 y5 y6 y7 y8 y9 y10 y11 y12 y13 y14 y15) (R_Trim.l0 (k + 1) y0 y1 y2 y3 y4 y5 y6 y7 y8 y9 y10 y11 y12 y13 y14 y15)) ∧ (∀ y0 y1 y2 y3 y4 y5 y6 y7 y8 y9 y10 y11 y12 y13 y14 y15 y16, LeO (R_Trim.j1 k y0 y1 y2 y3 y4 y5 y6 y7 y8 y9 y10 y11 y12 y13 y14 y15 y16) (R_Trim.j1 (k + 1) y0 y1 y2 y3 y4 y5 y6 y7 y8 y9 y10 y11 y12 y13 y14 y15 y16))
 | 0 => ⟨fun _ _ _ _ _ _ _ _ _ _ _ _ _ _ _ _ r h => by simp [R_Trim.l0] at h, fun _ _ _ _ _ _ _ _ _ _ _ _ _ _ _ _ _ r h => by simp [R_Trim.j1] at h⟩
 | k + 1 => by
  obtain ⟨ih0, ih1⟩ := R_Trim.mono_l k
  refine ⟨?_, ?_⟩
  ·intro y0 y1 y2 y3 y4 y5 y6 y7 y8 y9 y10 y11 y12 y13 y14 y15
   unfold R_Trim.l0
   repeat' first
   | (with_reducible exact ih0 _ _ _ _ _ _ _ _ _ _ _ _ _ _ _ _)
   | (with_reducible exact ih1 _ _ _ _ _ _ _ _ _ _ _ _ _ _ _ _ _)
   | (with_reducible exact LeO.refl _)
   | (with_reducible exact LeO.none _)
   | (with_reducible refine LeO.ite ?_ ?_)
   | (with_reducible refine LeO.bind ?_ (fun _ => ?_))
   | exact ih0 _ _ _ _ _ _ _ _ _ _ _ _ _ _ _ _
   | exact ih1 _ _ _ _ _ _ _ _ _ _ _ _ _ _ _ _ _
   | exact LeO.none _
   | refine LeO.ite ?_ ?_
   | refine LeO.bind ?_ (fun _ => ?_)
  ·intro y0 y1 y2 y3 y4 y5 y6 y7 y8 y9 y10 y11 y12 y13 y14 y15 y16
   unfold R_Trim.j1
   repeat' first
   | (with_reducible exact ih0 _ _ _ _ _ _ _ _ _ _ _ _ _ _ _ _)
   | (with_reducible exact ih1 _ _ _ _ _ _ _ _ _ _ _ _ _ _ _ _ _)
   | (with_reducible exact LeO.refl _)
   | (with_reducible exact LeO.none _)
   | (with_reducible refine LeO.ite ?_ ?_)
   | (with_reducible refine LeO.bind ?_ (fun _ => ?_))
   | exact ih0 _ _ _ _ _ _ _ _ _ _ _ _ _ _ _ _
   | exact ih1 _ _ _ _ _ _ _ _ _ _ _ _ _ _ _ _ _
   | exact LeO.none _
   | refine LeO.ite ?_ ?_
   | refine LeO.bind ?_ (fun _ => ?_)
theorem R_Trim.mono : ∀ a0 a1 a2 a3 a4 a5 a6 a7 a8 a9 a10 a11 a12 k, LeO (R_Trim.f k a0 a1 a2 a3 a4 a5 a6 a7 a8 a9 a10 a11 a12) (R_Trim.f (k + 1) a0 a1 a2 a3 a4 a5 a6 a7 a8 a9 a10 a11 a12) := by
 intro a0 a1 a2 a3 a4 a5 a6 a7 a8 a9 a10 a11 a12 k
 obtain ⟨ih0, ih1⟩ := R_Trim.mono_l k
 unfold R_Trim.f
 repeat' first
   | (with_reducible exact ih0 _ _ _ _ _ _ _ _ _ _ _ _ _ _ _ _)
   | (with_reducible exact ih1 _ _ _ _ _ _ _ _ _ _ _ _ _ _ _ _ _)
   | (with_reducible exact LeO.refl _)
   | (with_reducible exact LeO.none _)
   | (with_reducible refine LeO.ite ?_ ?_)
   | (with_reducible refine LeO.bind ?_ (fun _ => ?_))
   | exact ih0 _ _ _ _ _ _ _ _ _ _ _ _ _ _ _ _
   | exact ih1 _ _ _ _ _ _ _ _ _ _ _ _ _ _ _ _ _
   | exact LeO.none _
   | refine LeO.ite ?_ ?_
   | refine LeO.bind ?_ (fun _ => ?_)
def R_Trim.T6 : Bool × List (List Nat × List Nat) := (true, [([], []), ([0], [0]), ([], []), ([1, 2], [1, 2]), ([], []), ([4], [4]), ([], []), ([5, 6, 3], [5, 6]), ([3, 7, 0, 1, 2, 3], [3]), ([7, 8, 0, 1, 2, 3, 4, 5, 6, 7, 8], [7])])
def R_Trim.B6 : List Nat := [0, 1, 0, 7, 0, 16, 0, 127, 255, 511]
theorem R_Trim.tab6 : rtab .any (opsOf Try.f37 6) = R_Trim.T6 := by kernel_rfl
theorem R_Trim.bits6 : waitsOk R_Trim.T6.2 R_Trim.B6 = true := by kernel_rfl
def R_Trim.T10 : Bool × List (List Nat × List Nat) := (true, [([], []), ([0], [0]), ([], []), ([], []), ([], []), ([], []), ([4, 5], [4, 5]), ([3, 6], [3, 6]), ([1, 2, 7], [1, 2, 7]), ([], []), ([9], [9]), ([], []), ([], []), ([10, 11, 12, 8], [10, 11, 12]), ([0, 1, 2, 3, 4, 5, 6, 7, 8], []), ([14, 8, 13, 0, 1, 2, 3, 4, 5, 6, 7, 8], [8, 14]), ([0, 1, 2, 3, 4, 5, 6, 7, 8, 9, 10, 11, 12, 13, 14, 15], []), ([16, 13, 15, 0, 1, 2, 3, 4, 5, 6, 7, 8, 9, 10, 11, 12, 13, 14, 15], [13, 16])])
def R_Trim.B10 : List Nat := [0, 1, 0, 0, 0, 0, 48, 120, 255, 0, 512, 0, 0, 8191, 511, 32767, 65535, 131071]
theorem R_Trim.tab10 : rtab .any (opsOf Try.f37 10) = R_Trim.T10 := by kernel_rfl
theorem R_Trim.bits10 : waitsOk R_Trim.T10.2 R_Trim.B10 = true := by kernel_rfl
def R_Trim.T18 : Bool × List (List Nat × List Nat) := (true, [([], []), ([0], [0]), ([], []), ([], []), ([1, 2, 3], [1, 2, 3]), ([], []), ([5], [5]), ([], []), ([], []), ([], []), ([], []), ([9, 10], [9, 10]), ([8, 11], [8, 11]), ([6, 7, 12, 4], [6, 7, 12]), ([0, 1, 2, 3, 4], []), ([14, 4, 13, 0, 1, 2, 3, 4], [4, 14]), ([0, 1, 2, 3, 4, 5, 6, 7, 8, 9, 10, 11, 12, 13, 14, 15], []), ([16, 13, 15, 0, 1, 2, 3, 4, 5, 6, 7, 8, 9, 10, 11, 12, 13, 14, 15], [13, 16])])
def R_Trim.B18 : List Nat := [0, 1, 0, 0, 15, 0, 32, 0, 0, 0, 0, 1536, 3840, 8191, 31, 32767, 65535, 131071]
theorem R_Trim.tab18 : rtab .any (opsOf Try.f37 18) = R_Trim.T18 := by kernel_rfl
theorem R_Trim.bits18 : waitsOk R_Trim.T18.2 R_Trim.B18 = true := by kernel_rfl
set_option maxHeartbeats 8000000 in
set_option maxRecDepth 100000 in
theorem R_Trim.calls (k : Nat) (a0_0 : Int) (a0_1 : Int) (a0_2 : Int) (a0_3 : Int) (a0_4 : Int) (a0_5 : Int) (a1_0 : Int) (a1_1 : Int) (a1_2 : Int) (a1_3 : Int) (a1_4 : Int) (a1_5 : Int) (a2 : Int) (r1 : List (S27)) (r2 : Int) (w : World) (h : R_Trim.f k a0_0 a0_1 a0_2 a0_3 a0_4 a0_5 a1_0 a1_1 a1_2 a1_3 a1_4 a1_5 a2 = some (r1, r2)) :
  Calls Try.prog 37 #[.agg #[.int .i64 a0_0, .int .i64 a0_1, .int .i64 a0_2, .int .i64 a0_3, .int .i64 a0_4, .int .i64 a0_5], .agg #[.int .i64 a1_0, .int .i64 a1_1, .int .i64 a1_2, .int .i64 a1_3, .int .i64 a1_4, .int .i64 a1_5], .int .i64 a2] w fun e w' => ∃ v0_ : Value, e = .returned (.tuple #[v0_, .int .i64 r2]) ∧ Kd.R k27 27 w' w.heap.size (fun _ => True) v0_ r1 ∧ Below w.heap.size w w' := by
 have hu25 := Try.underlying25
 have hu23 := Try.underlying23
 have hu27 := Try.underlying27
 have HB := Aside0.mk (Below.refl w.heap.size w)
 have H : (R_Trim.l0 k a2 (([] : List (S27))) 0 0 a0_0 a0_1 a0_2 a0_3 a0_4 a0_5 a1_0 a1_1 a1_2 a1_3 a1_4 a1_5) = some (r1, r2) := h
 clear h
 obtain ⟨y117, hy117⟩ : ∃ y_ : List (S27), y_ = (([] : List (S27))) := ⟨_, rfl⟩
 replace H : (R_Trim.l0 k a2 y117 0 0 a0_0 a0_1 a0_2 a0_3 a0_4 a0_5 a1_0 a1_1 a1_2 a1_3 a1_4 a1_5) = some (r1, r2) := by first | (rw [hy117]; with_reducible exact H) | (have H2_ := (Option.bind_some _ _).symm.trans H; rw [hy117]; with_reducible exact H2_) | (have H2_ := (Option.bind_some _ _).symm.trans H; with_reducible exact H2_) | with_reducible exact H | (rw [hy117]; exact H) | exact H
 have Ny117 := Aside0.mk hy117
 clear hy117
 have H' := Aside0.mk H
 clear H
 go_enter Try.func37, Try.ntmps37
 go_wp2_with (first | ((with_reducible refine gate_dst (N := 3) rfl ?_); refine box_event ?hg (N := 3) ?hd (cs := #[.int .i64 a0_0, .int .i64 a0_1, .int .i64 a0_2, .int .i64 a0_3, .int .i64 a0_4, .int .i64 a0_5]) (t := 25) ?hr ?_; (case hd => rfl); (case hg => rfl); (case hr => first | (go_simp; done) | (go_simp; rfl)); intro gb115 hg w4 hbox hb; have n0_ := Aside0.mk (KT.bbL HB.out hb); have n1_ := Aside0.mk (hbox); have n2_ := Aside0.mk ((by rw [hg]; exact (below_size (KT.blL HB.out)) : w.heap.size ≤ gb115)); have n3_ := Aside0.mk ((by rw [hg]; exact (below_size (KT.blL HB.out)) : w.heap.size ≤ gb115)); clear HB; have HB := n0_; have BK115 := n1_; have GW115 := n2_; have GE115 := n3_; clear n0_ n1_ n2_ n3_; clear hb hbox hg) | ((with_reducible refine gate_dst (N := 4) rfl ?_); refine box_event ?hg (N := 4) ?hd (cs := #[.int .i64 a1_0, .int .i64 a1_1, .int .i64 a1_2, .int .i64 a1_3, .int .i64 a1_4, .int .i64 a1_5]) (t := 25) ?hr ?_; (case hd => rfl); (case hg => rfl); (case hr => first | (go_simp; done) | (go_simp; rfl)); intro gb116 hg w5 hbox hb; have n0_ := Aside0.mk (KT.bL BK115.out hb); have n1_ := Aside0.mk (below_step (by repeat (first | (with_reducible first | exact HB.out | apply below_alloc | apply pw_below_drewN | apply below_drew1 | refine below_set ?_ GE115.out) | exact HB.out)) hb); have n2_ := Aside0.mk (hbox); have n3_ := Aside0.mk ((by rw [hg]; exact (below_size (by repeat (first | (with_reducible first | exact HB.out | apply below_alloc | apply pw_below_drewN | apply below_drew1 | refine below_set ?_ GE115.out) | exact HB.out))) : w.heap.size ≤ gb116)); have n4_ := Aside0.mk ((by rw [hg]; exact (below_size (by repeat (first | (with_reducible first | exact HB.out | apply below_alloc | apply pw_below_drewN | apply below_drew1 | refine below_set ?_ GE115.out) | exact HB.out))) : w.heap.size ≤ gb116)); have n5_ := Aside0.mk ((by rw [hg]; exact Nat.ne_of_lt (KT.lL BK115.out) : gb115 ≠ gb116)); have n6_ := Aside0.mk ((by rw [hg]; exact Nat.ne_of_gt (KT.lL BK115.out) : gb116 ≠ gb115)); clear BK115; clear HB; have BK115 := n0_; have HB := n1_; have BK116 := n2_; have GW116 := n3_; have GE116 := n4_; have NB115_116 := n5_; have NB116_115 := n6_; clear n0_ n1_ n2_ n3_ n4_ n5_ n6_; clear hb hbox hg) | ((with_reducible refine gate_dst (N := 17) rfl ?_); refine Kd.R_lit k27 _ 27 ?hg (N := 17) ?hd (xs := ([] : List (S27))) (inner := []) (ok := fun _ => True) (okp := fun _ => True) ?hr ?hp (fun _ hk => hk) trivial (Below.refl _ _) (Nat.le_refl _) (by simp) ?_; (case hd => rfl); (case hg => rfl); (case hr => first | (go_simp; done) | (go_simp; rfl)); (case hp => exact (Reps.none _ _)); intro v118 w6 ho7 hb hg_ hnew_; clear hg_ hnew_; (first | rw [← Ny117.out] at ho7 | (simp only [Int.reduceToNat] at ho7; rw [← Ny117.out] at ho7)); have n0_ := Aside0.mk (Kd.R_lower ho7 (below_size (by repeat (first | (with_reducible first | exact HB.out | apply below_alloc | apply pw_below_drewN | apply below_drew1 | refine below_set ?_ GE115.out | refine below_set ?_ GE116.out) | exact HB.out)))); have n1_ := Aside0.mk (KT.bL BK115.out hb); have n2_ := Aside0.mk (KT.bL BK116.out hb); have n3_ := Aside0.mk (below_step (by repeat (first | (with_reducible first | exact HB.out | apply below_alloc | apply pw_below_drewN | apply below_drew1 | refine below_set ?_ GE115.out | refine below_set ?_ GE116.out) | exact HB.out)) hb); clear BK115; clear BK116; clear HB; have HO119 := n0_; have BK115 := n1_; have BK116 := n2_; have HB := n3_; clear n0_ n1_ n2_ n3_; clear hb ho7))
 go_loopg [8, 9, 10] k (fun kq v8 v9 v10 w' => ∃ (x8_1 : List (S27)) (x9_1 : Int) (x10_1 : Int) (x116000_1 : Int) (x116001_1 : Int) (x116002_1 : Int) (x116003_1 : Int) (x116004_1 : Int) (x116005_1 : Int), v9 = .int .i64 x9_1 ∧ v10 = .int .i64 x10_1 ∧ Aside0 (R_Trim.l0 kq a2 x8_1 x9_1 x10_1 x116000_1 x116001_1 x116002_1 x116003_1 x116004_1 x116005_1 a1_0 a1_1 a1_2 a1_3 a1_4 a1_5 = some (r1, r2)) ∧ Aside0 (kq ≤ k) ∧ Aside0 (Kd.R k27 27 w' w.heap.size (fun _ => True) v8 x8_1) ∧ Aside0 (w'.heap[gb115]? = some (.cells #[.int .i64 x116000_1, .int .i64 x116001_1, .int .i64 x116002_1, .int .i64 x116003_1, .int .i64 x116004_1, .int .i64 x116005_1] 25 (0, 0))) ∧ Aside0 (w'.heap[gb116]? = some (.cells #[.int .i64 a1_0, .int .i64 a1_1, .int .i64 a1_2, .int .i64 a1_3, .int .i64 a1_4, .int .i64 a1_5] 25 (0, 0))) ∧ Aside0 (Below w.heap.size w w'))
 case atStart => exact ⟨(y117), (0), (0), (a0_0), (a0_1), (a0_2), (a0_3), (a0_4), (a0_5), (by first | rfl | (simp; done) | (simp [*]; done)), (by first | rfl | (simp; done) | (simp [*]; done)), H', ⟨Nat.le_refl _⟩, ⟨KT.rL HO119.out⟩, ⟨KT.kL BK115.out⟩, ⟨KT.kL BK116.out⟩, ⟨by repeat (first | (with_reducible first | exact HB.out | apply below_alloc | apply pw_below_drewN | apply below_drew1 | refine below_set ?_ GE115.out | refine below_set ?_ GE116.out) | exact HB.out)⟩⟩
 case round =>
  clear H'
  try clear p2
  try clear c3
  obtain ⟨x8_1, x9_1, x10_1, x116000_1, x116001_1, x116002_1, x116003_1, x116004_1, x116005_1, rfl, rfl, HA, HK1, HO_8, BK115, BK116, HB⟩ := hrel
  cases gk with
  | zero => exact absurd HA.out (by simp [R_Trim.l0])
  | succ k1 =>
   have H := HA.out
   clear HA
   simp only [R_Trim.l0] at H
   by_cases c8 : x10_1 < 3
   ·rw [if_pos c8] at H
    have c8b0 : decide (x10_1 < 3) = true := decide_eq_true c8
    clear c8
    replace H := Option.bind_eq_some_iff.mp H
    obtain ⟨t120, A90, H⟩ := H
    replace H : ((R_Get.f a1_3 a1_4 a1_5 x10_1).bind fun t121 => ((R_Get.f x116000_1 x116001_1 x116002_1 x10_1).bind fun t122 => (if (wrap64 (t120 - t122)) > 0 then ((R_Put.f x116000_1 x116001_1 x116002_1 x10_1 (wrap64 (t120 - (mn (wrap64 (t120 - t122)) a2)))).bind fun bt124 => ((R_Put.f x116003_1 x116004_1 x116005_1 x10_1 t120).bind fun bt127 => ((R_Volume.f bt124.1 bt124.2.1 bt124.2.2 bt127.1 bt127.2.1 bt127.2.2).bind fun t130 => (if (wrap64 (t120 - t122)) > a2 then (if x8_1.length < 5864062014805 then ((R_Put.f x116000_1 x116001_1 x116002_1 x10_1 t120).bind fun bt134 => (R_Trim.j1 k1 a2 (x8_1 ++ [(⟨x10_1, wrap64 (t120 - a2), a2⟩ : S27)]) (wrap64 (x9_1 + t130)) x10_1 t121 bt134.1 bt134.2.1 bt134.2.2 x116003_1 x116004_1 x116005_1 a1_0 a1_1 a1_2 a1_3 a1_4 a1_5)) else (none)) else ((R_Put.f x116000_1 x116001_1 x116002_1 x10_1 t120).bind fun bt137 => (R_Trim.j1 k1 a2 x8_1 (wrap64 (x9_1 + t130)) x10_1 t121 bt137.1 bt137.2.1 bt137.2.2 x116003_1 x116004_1 x116005_1 a1_0 a1_1 a1_2 a1_3 a1_4 a1_5)))))) else (R_Trim.j1 k1 a2 x8_1 x9_1 x10_1 t121 x116000_1 x116001_1 x116002_1 x116003_1 x116004_1 x116005_1 a1_0 a1_1 a1_2 a1_3 a1_4 a1_5)))) = some (r1, r2) := H
    have A9 := Aside0.mk A90
    clear A90
    replace H := Option.bind_eq_some_iff.mp H
    obtain ⟨t121, A100, H⟩ := H
    replace H : ((R_Get.f x116000_1 x116001_1 x116002_1 x10_1).bind fun t122 => (if (wrap64 (t120 - t122)) > 0 then ((R_Put.f x116000_1 x116001_1 x116002_1 x10_1 (wrap64 (t120 - (mn (wrap64 (t120 - t122)) a2)))).bind fun bt124 => ((R_Put.f x116003_1 x116004_1 x116005_1 x10_1 t120).bind fun bt127 => ((R_Volume.f bt124.1 bt124.2.1 bt124.2.2 bt127.1 bt127.2.1 bt127.2.2).bind fun t130 => (if (wrap64 (t120 - t122)) > a2 then (if x8_1.length < 5864062014805 then ((R_Put.f x116000_1 x116001_1 x116002_1 x10_1 t120).bind fun bt134 => (R_Trim.j1 k1 a2 (x8_1 ++ [(⟨x10_1, wrap64 (t120 - a2), a2⟩ : S27)]) (wrap64 (x9_1 + t130)) x10_1 t121 bt134.1 bt134.2.1 bt134.2.2 x116003_1 x116004_1 x116005_1 a1_0 a1_1 a1_2 a1_3 a1_4 a1_5)) else (none)) else ((R_Put.f x116000_1 x116001_1 x116002_1 x10_1 t120).bind fun bt137 => (R_Trim.j1 k1 a2 x8_1 (wrap64 (x9_1 + t130)) x10_1 t121 bt137.1 bt137.2.1 bt137.2.2 x116003_1 x116004_1 x116005_1 a1_0 a1_1 a1_2 a1_3 a1_4 a1_5)))))) else (R_Trim.j1 k1 a2 x8_1 x9_1 x10_1 t121 x116000_1 x116001_1 x116002_1 x116003_1 x116004_1 x116005_1 a1_0 a1_1 a1_2 a1_3 a1_4 a1_5))) = some (r1, r2) := H
    have A10 := Aside0.mk A100
    clear A100
    replace H := Option.bind_eq_some_iff.mp H
    obtain ⟨t122, A110, H⟩ := H
    replace H : (if (wrap64 (t120 - t122)) > 0 then ((R_Put.f x116000_1 x116001_1 x116002_1 x10_1 (wrap64 (t120 - (mn (wrap64 (t120 - t122)) a2)))).bind fun bt124 => ((R_Put.f x116003_1 x116004_1 x116005_1 x10_1 t120).bind fun bt127 => ((R_Volume.f bt124.1 bt124.2.1 bt124.2.2 bt127.1 bt127.2.1 bt127.2.2).bind fun t130 => (if (wrap64 (t120 - t122)) > a2 then (if x8_1.length < 5864062014805 then ((R_Put.f x116000_1 x116001_1 x116002_1 x10_1 t120).bind fun bt134 => (R_Trim.j1 k1 a2 (x8_1 ++ [(⟨x10_1, wrap64 (t120 - a2), a2⟩ : S27)]) (wrap64 (x9_1 + t130)) x10_1 t121 bt134.1 bt134.2.1 bt134.2.2 x116003_1 x116004_1 x116005_1 a1_0 a1_1 a1_2 a1_3 a1_4 a1_5)) else (none)) else ((R_Put.f x116000_1 x116001_1 x116002_1 x10_1 t120).bind fun bt137 => (R_Trim.j1 k1 a2 x8_1 (wrap64 (x9_1 + t130)) x10_1 t121 bt137.1 bt137.2.1 bt137.2.2 x116003_1 x116004_1 x116005_1 a1_0 a1_1 a1_2 a1_3 a1_4 a1_5)))))) else (R_Trim.j1 k1 a2 x8_1 x9_1 x10_1 t121 x116000_1 x116001_1 x116002_1 x116003_1 x116004_1 x116005_1 a1_0 a1_1 a1_2 a1_3 a1_4 a1_5)) = some (r1, r2) := H
    have A11 := Aside0.mk A110
    clear A110
    have HC12 := Aside0.mk H
    clear H
    try go_wp2
    have n0_ := Aside0.mk (Kd.R_drew HO_8.out)
    have n1_ := Aside0.mk (blk_drew BK115.out)
    have n2_ := Aside0.mk (blk_drew BK116.out)
    have n3_ := Aside0.mk (below_drew1 HB.out)
    clear HO_8
    clear BK115
    clear BK116
    clear HB
    have HO_8 := n0_
    have BK115 := n1_
    have BK116 := n2_
    have HB := n3_
    clear n0_ n1_ n2_ n3_
    refine start_ (n := 10) (S := fun w' => w'.cell? ⟨gb116, 0, none⟩ = some (.int .i64 a1_0) ∧ w'.cell? ⟨gb116, 1, none⟩ = some (.int .i64 a1_1) ∧ w'.cell? ⟨gb116, 2, none⟩ = some (.int .i64 a1_2) ∧ w'.cell? ⟨gb116, 3, none⟩ = some (.int .i64 a1_3) ∧ w'.cell? ⟨gb116, 4, none⟩ = some (.int .i64 a1_4) ∧ w'.cell? ⟨gb116, 5, none⟩ = some (.int .i64 a1_5)) (ds := []) #[false, false, false, false, false, false, false, false, false, false] (by kernel_rfl) rfl rfl ⟨(blk_cell BK116.out 0).trans rfl, (blk_cell BK116.out 1).trans rfl, (blk_cell BK116.out 2).trans rfl, (blk_cell BK116.out 3).trans rfl, (blk_cell BK116.out 4).trans rfl, (blk_cell BK116.out 5).trans rfl⟩ (fun hHeld => ?_); refine with_tabW R_Trim.tab6 R_Trim.bits6 (fun HT_ HW_ => ?_)
    generalize wr.drew = w13 at HO_8 BK115 BK116 HB hHeld ⊢
    refine pure_ (i := 0) (N := some 22) (v := ?_) (a' := ?_) #[true, false, false, false, false, false, false, false, false, false] rfl rfl (any_of HT_.out (by kernel_rfl)) (fun _ _ _ h => h) (Or.inl ⟨by rfl, ?_⟩) ?_ ?_
    rotate_left
    ·intro w'
     go_simp
     with_reducible rfl
    rotate_left
    ·simp only [Act.put, List.setIfInBounds_toArray, List.set_cons_zero, List.set_cons_succ, i64_w, i32_w]
     rfl
    refine pure_ (i := 2) (N := some 24) (v := ?_) (a' := ?_) #[true, false, true, false, false, false, false, false, false, false] rfl rfl (any_of HT_.out (by kernel_rfl)) (fun _ _ _ h => h) (Or.inl ⟨by rfl, ?_⟩) ?_ ?_
    rotate_left
    ·intro w'
     go_simp
     with_reducible rfl
    rotate_left
    ·simp only [Act.put, List.setIfInBounds_toArray, List.set_cons_zero, List.set_cons_succ, i64_w, i32_w]
     rfl
    refine pure_ (i := 4) (N := some 26) (v := ?_) (a' := ?_) #[true, false, true, false, true, false, false, false, false, false] rfl rfl (any_of HT_.out (by kernel_rfl)) (fun _ _ _ h => h) (Or.inl ⟨by rfl, ?_⟩) ?_ ?_
    rotate_left
    ·intro w'
     go_simp
     with_reducible rfl
    rotate_left
    ·simp only [Act.put, List.setIfInBounds_toArray, List.set_cons_zero, List.set_cons_succ, i64_w, i32_w]
     rfl
    refine pure_ (i := 6) (N := some 28) (v := ?_) (a' := ?_) #[true, false, true, false, true, false, true, false, false, false] rfl rfl (any_of HT_.out (by kernel_rfl)) (fun _ _ _ h => h) (Or.inl ⟨by rfl, ?_⟩) ?_ ?_
    rotate_left
    ·intro w'
     go_simp
     with_reducible rfl
    rotate_left
    ·simp only [Act.put, List.setIfInBounds_toArray, List.set_cons_zero, List.set_cons_succ, i64_w, i32_w]
     rfl
    refine take_ (i := 1) (N := some 23) (v := ?_) (a' := ?_) #[true, true, true, false, true, false, true, false, false, false] rfl rfl (take_ofW HT_.out HW_.out (by kernel_rfl)) (fun _ _ _ h => h) (Or.inl ⟨by rfl, ?_⟩) hHeld ?_ ?_
    rotate_left
    ·rintro w' ⟨s0, s1, s2, s3, s4, s5⟩
     go_simp
     with_reducible rfl
    rotate_left
    ·simp only [Act.put, List.setIfInBounds_toArray, List.set_cons_zero, List.set_cons_succ, i64_w, i32_w]
     rfl
    refine take_ (i := 5) (N := some 27) (v := ?_) (a' := ?_) #[true, true, true, false, true, true, true, false, false, false] rfl rfl (take_ofW HT_.out HW_.out (by kernel_rfl)) (fun _ _ _ h => h) (Or.inl ⟨by rfl, ?_⟩) hHeld ?_ ?_
    rotate_left
    ·rintro w' ⟨s0, s1, s2, s3, s4, s5⟩
     go_simp
     with_reducible rfl
    rotate_left
    ·simp only [Act.put, List.setIfInBounds_toArray, List.set_cons_zero, List.set_cons_succ, i64_w, i32_w]
     rfl
    refine one_ (i := 3) (N := some 25) #[true, true, true, true, true, true, true, false, false, false] rfl rfl (one_of HT_.out (by kernel_rfl)) (by decide) (fun K hK => ?_)
    refine goes_ Try.func41 (by kernel_rfl) rfl #[.agg #[.int .i64 a1_0, .int .i64 a1_1, .int .i64 a1_2], .int .i64 x10_1] (by rfl) rfl rfl (by (try simp only [List.map_toArray, List.map_cons, List.map_nil]); first | done | rfl) ?_
    with_reducible refine (R_Get.calls a1_0 a1_1 a1_2 x10_1 t120 _ A9.out).mono ?_
    rintro e w14 ⟨rfl, hb⟩
    refine ⟨_, rfl, ?_⟩
    have n0_ := Aside0.mk (KT.rbL HO_8.out hb)
    have n1_ := Aside0.mk (KT.bL BK115.out hb)
    have n2_ := Aside0.mk (KT.bL BK116.out hb)
    have n3_ := Aside0.mk (below_step (by repeat (first | (with_reducible first | exact HB.out | apply below_alloc | apply pw_below_drewN | apply below_drew1 | refine below_set ?_ GE115.out | refine below_set ?_ GE116.out) | exact HB.out)) hb)
    clear HO_8
    clear BK115
    clear BK116
    clear HB
    have HO_8 := n0_
    have BK115 := n1_
    have BK116 := n2_
    have HB := n3_
    clear n0_ n1_ n2_ n3_
    (try clear hb)
    (try clear hb2)
    (try clear hk)
    (try clear hi)
    refine hK.out _ _ ⟨(blk_cell BK116.out 0).trans rfl, (blk_cell BK116.out 1).trans rfl, (blk_cell BK116.out 2).trans rfl, (blk_cell BK116.out 3).trans rfl, (blk_cell BK116.out 4).trans rfl, (blk_cell BK116.out 5).trans rfl⟩ (fun hHeld => ?_)
    clear hK K
    refine norm_ (a' := ?_) ?_ ?_
    rotate_left
    ·show Act.put _ (some 25) _ = _
     simp only [Act.put, List.setIfInBounds_toArray, List.set_cons_zero, List.set_cons_succ, i64_w, i32_w]
     rfl
    refine one_ (i := 7) (N := some 29) #[true, true, true, true, true, true, true, true, false, false] rfl rfl (one_of HT_.out (by kernel_rfl)) (by decide) (fun K hK => ?_)
    refine goes_ Try.func41 (by kernel_rfl) rfl #[.agg #[.int .i64 a1_3, .int .i64 a1_4, .int .i64 a1_5], .int .i64 x10_1] (by rfl) rfl rfl (by (try simp only [List.map_toArray, List.map_cons, List.map_nil]); first | done | rfl) ?_
    with_reducible refine (R_Get.calls a1_3 a1_4 a1_5 x10_1 t121 _ A10.out).mono ?_
    rintro e w15 ⟨rfl, hb⟩
    refine ⟨_, rfl, ?_⟩
    have n0_ := Aside0.mk (KT.rbL HO_8.out hb)
    have n1_ := Aside0.mk (KT.bL BK115.out hb)
    have n2_ := Aside0.mk (KT.bL BK116.out hb)
    have n3_ := Aside0.mk (below_step (by repeat (first | (with_reducible first | exact HB.out | apply below_alloc | apply pw_below_drewN | apply below_drew1 | refine below_set ?_ GE115.out | refine below_set ?_ GE116.out) | exact HB.out)) hb)
    clear HO_8
    clear BK115
    clear BK116
    clear HB
    have HO_8 := n0_
    have BK115 := n1_
    have BK116 := n2_
    have HB := n3_
    clear n0_ n1_ n2_ n3_
    (try clear hb)
    (try clear hb2)
    (try clear hk)
    (try clear hi)
    refine hK.out _ _ ⟨(blk_cell BK116.out 0).trans rfl, (blk_cell BK116.out 1).trans rfl, (blk_cell BK116.out 2).trans rfl, (blk_cell BK116.out 3).trans rfl, (blk_cell BK116.out 4).trans rfl, (blk_cell BK116.out 5).trans rfl⟩ (fun hHeld => ?_)
    clear hK K
    refine norm_ (a' := ?_) ?_ ?_
    rotate_left
    ·show Act.put _ (some 29) _ = _
     simp only [Act.put, List.setIfInBounds_toArray, List.set_cons_zero, List.set_cons_succ, i64_w, i32_w]
     rfl
    refine pure_ (i := 8) (N := some 11) (v := ?_) (a' := ?_) #[true, true, true, true, true, true, true, true, true, false] rfl rfl (any_of HT_.out (by kernel_rfl)) (fun _ _ _ h => h) (Or.inl ⟨by rfl, ?_⟩) ?_ ?_
    rotate_left
    ·intro w'
     go_simp
     with_reducible rfl
    rotate_left
    ·simp only [Act.put, List.setIfInBounds_toArray, List.set_cons_zero, List.set_cons_succ, i64_w, i32_w]
     rfl
    refine pure_ (i := 9) (N := some 12) (v := ?_) (a' := ?_) #[true, true, true, true, true, true, true, true, true, true] rfl rfl (any_of HT_.out (by kernel_rfl)) (fun _ _ _ h => h) (Or.inl ⟨by rfl, ?_⟩) ?_ ?_
    rotate_left
    ·intro w'
     go_simp
     with_reducible rfl
    rotate_left
    ·simp only [Act.put, List.setIfInBounds_toArray, List.set_cons_zero, List.set_cons_succ, i64_w, i32_w]
     rfl
    refine done_ (done_of HT_.out (by kernel_rfl)) ?_
    have hnb16 := NB115_116.out
    have hnc16 := NB116_115.out
    have hcz17_0 : w15.cell? ⟨gb115, 0, none⟩ = some (.int .i64 x116000_1) := (blk_cell BK115.out 0).trans rfl
    have hcz17_1 : w15.cell? ⟨gb115, 1, none⟩ = some (.int .i64 x116001_1) := (blk_cell BK115.out 1).trans rfl
    have hcz17_2 : w15.cell? ⟨gb115, 2, none⟩ = some (.int .i64 x116002_1) := (blk_cell BK115.out 2).trans rfl
    have hcz17_3 : w15.cell? ⟨gb115, 3, none⟩ = some (.int .i64 x116003_1) := (blk_cell BK115.out 3).trans rfl
    have hcz17_4 : w15.cell? ⟨gb115, 4, none⟩ = some (.int .i64 x116004_1) := (blk_cell BK115.out 4).trans rfl
    have hcz17_5 : w15.cell? ⟨gb115, 5, none⟩ = some (.int .i64 x116005_1) := (blk_cell BK115.out 5).trans rfl
    have hfz17_0 := blk_frozen BK115.out 0
    have hfz17_1 := blk_frozen BK115.out 1
    have hfz17_2 := blk_frozen BK115.out 2
    have hfz17_3 := blk_frozen BK115.out 3
    have hfz17_4 := blk_frozen BK115.out 4
    have hfz17_5 := blk_frozen BK115.out 5
    go_upto_if 37 with (first | ((with_reducible refine gate_callee (f := 41) rfl ?_); refine goesL_ (some 34) rfl rfl Try.func41 (by kernel_rfl) rfl #[.agg #[.int .i64 x116000_1, .int .i64 x116001_1, .int .i64 x116002_1], .int .i64 x10_1] rfl (by (try simp only [List.map_toArray, List.map_cons, List.map_nil]); first | done | rfl) ?_; (with_reducible refine (R_Get.calls x116000_1 x116001_1 x116002_1 x10_1 t122 _ A11.out).mono ?_); rintro e w18 ⟨rfl, hb⟩; refine ⟨_, rfl, ?_⟩; have n0_ := Aside0.mk (KT.rbL HO_8.out hb); have n1_ := Aside0.mk (KT.bL BK115.out hb); have n2_ := Aside0.mk (KT.bL BK116.out hb); have n3_ := Aside0.mk (below_step (by repeat (first | (with_reducible first | exact HB.out | apply below_alloc | apply pw_below_drewN | apply below_drew1 | refine below_set ?_ GE115.out | refine below_set ?_ GE116.out) | exact HB.out)) hb); clear HO_8; clear BK115; clear BK116; clear HB; have HO_8 := n0_; have BK115 := n1_; have BK116 := n2_; have HB := n3_; clear n0_ n1_ n2_ n3_; (try clear hb); (try clear hb2); (try clear hk); (try clear hi)))
    (try simp only [Act.put, List.setIfInBounds_toArray, List.set_cons_zero, List.set_cons_succ])
    go_cut [8, 9] (fun v8 v9 wc => ∃ (kq : Nat) (x8_11 : List (S27)) (x9_11 : Int) (x116000_11 : Int) (x116001_11 : Int) (x116002_11 : Int), v9 = .int .i64 x9_11 ∧ Aside0 (R_Trim.j1 kq a2 x8_11 x9_11 x10_1 t121 x116000_11 x116001_11 x116002_11 x116003_1 x116004_1 x116005_1 a1_0 a1_1 a1_2 a1_3 a1_4 a1_5 = some (r1, r2)) ∧ Aside0 (kq ≤ k1) ∧ Aside0 (Kd.R k27 27 wc w.heap.size (fun _ => True) v8 x8_11) ∧ Aside0 (wc.heap[gb115]? = some (.cells #[.int .i64 x116000_11, .int .i64 x116001_11, .int .i64 x116002_11, .int .i64 x116003_1, .int .i64 x116004_1, .int .i64 x116005_1] 25 (0, 0))) ∧ Aside0 (wc.heap[gb116]? = some (.cells #[.int .i64 a1_0, .int .i64 a1_1, .int .i64 a1_2, .int .i64 a1_3, .int .i64 a1_4, .int .i64 a1_5] 25 (0, 0))) ∧ Aside0 (Below w.heap.size w wc))
    case first =>
     have H := HC12.out
     clear HC12
     by_cases c19 : (wrap64 (t120 - t122)) > 0
     ·rw [if_pos c19] at H
      have c19b0 : decide (0 < (wrap64 (t120 - t122))) = true := decide_eq_true c19
      clear c19
      (first | rw [c19b0] | (simp only [i64_w, i32_w]; rw [c19b0]) | skip)
      obtain ⟨ji20, hji20⟩ : ∃ j_ : Int, (mn (wrap64 (t120 - t122)) a2) = j_ := ⟨_, rfl⟩
      replace H : ((R_Put.f x116000_1 x116001_1 x116002_1 x10_1 (wrap64 (t120 - (ji20)))).bind fun bt124 => ((R_Put.f x116003_1 x116004_1 x116005_1 x10_1 t120).bind fun bt127 => ((R_Volume.f bt124.1 bt124.2.1 bt124.2.2 bt127.1 bt127.2.1 bt127.2.2).bind fun t130 => (if (wrap64 (t120 - t122)) > a2 then (if x8_1.length < 5864062014805 then ((R_Put.f x116000_1 x116001_1 x116002_1 x10_1 t120).bind fun bt134 => (R_Trim.j1 k1 a2 (x8_1 ++ [(⟨x10_1, wrap64 (t120 - a2), a2⟩ : S27)]) (wrap64 (x9_1 + t130)) x10_1 t121 bt134.1 bt134.2.1 bt134.2.2 x116003_1 x116004_1 x116005_1 a1_0 a1_1 a1_2 a1_3 a1_4 a1_5)) else (none)) else ((R_Put.f x116000_1 x116001_1 x116002_1 x10_1 t120).bind fun bt137 => (R_Trim.j1 k1 a2 x8_1 (wrap64 (x9_1 + t130)) x10_1 t121 bt137.1 bt137.2.1 bt137.2.2 x116003_1 x116004_1 x116005_1 a1_0 a1_1 a1_2 a1_3 a1_4 a1_5)))))) = some (r1, r2) := by first | (rw [hji20] at H; exact H) | (simp only [hji20] at H ⊢; exact H)
      have hji20_ : (if a2 < (wrap64 (t120 - t122)) then a2 else (wrap64 (t120 - t122))) = ji20 := hji20
      replace H := Option.bind_eq_some_iff.mp H
      obtain ⟨⟨t124, t125, t126⟩, A210, H⟩ := H
      replace H : ((R_Put.f x116003_1 x116004_1 x116005_1 x10_1 t120).bind fun bt127 => ((R_Volume.f t124 t125 t126 bt127.1 bt127.2.1 bt127.2.2).bind fun t130 => (if (wrap64 (t120 - t122)) > a2 then (if x8_1.length < 5864062014805 then ((R_Put.f x116000_1 x116001_1 x116002_1 x10_1 t120).bind fun bt134 => (R_Trim.j1 k1 a2 (x8_1 ++ [(⟨x10_1, wrap64 (t120 - a2), a2⟩ : S27)]) (wrap64 (x9_1 + t130)) x10_1 t121 bt134.1 bt134.2.1 bt134.2.2 x116003_1 x116004_1 x116005_1 a1_0 a1_1 a1_2 a1_3 a1_4 a1_5)) else (none)) else ((R_Put.f x116000_1 x116001_1 x116002_1 x10_1 t120).bind fun bt137 => (R_Trim.j1 k1 a2 x8_1 (wrap64 (x9_1 + t130)) x10_1 t121 bt137.1 bt137.2.1 bt137.2.2 x116003_1 x116004_1 x116005_1 a1_0 a1_1 a1_2 a1_3 a1_4 a1_5))))) = some (r1, r2) := H
      have A21 := Aside0.mk A210
      clear A210
      replace H := Option.bind_eq_some_iff.mp H
      obtain ⟨⟨t127, t128, t129⟩, A220, H⟩ := H
      replace H : ((R_Volume.f t124 t125 t126 t127 t128 t129).bind fun t130 => (if (wrap64 (t120 - t122)) > a2 then (if x8_1.length < 5864062014805 then ((R_Put.f x116000_1 x116001_1 x116002_1 x10_1 t120).bind fun bt134 => (R_Trim.j1 k1 a2 (x8_1 ++ [(⟨x10_1, wrap64 (t120 - a2), a2⟩ : S27)]) (wrap64 (x9_1 + t130)) x10_1 t121 bt134.1 bt134.2.1 bt134.2.2 x116003_1 x116004_1 x116005_1 a1_0 a1_1 a1_2 a1_3 a1_4 a1_5)) else (none)) else ((R_Put.f x116000_1 x116001_1 x116002_1 x10_1 t120).bind fun bt137 => (R_Trim.j1 k1 a2 x8_1 (wrap64 (x9_1 + t130)) x10_1 t121 bt137.1 bt137.2.1 bt137.2.2 x116003_1 x116004_1 x116005_1 a1_0 a1_1 a1_2 a1_3 a1_4 a1_5)))) = some (r1, r2) := H
      have A22 := Aside0.mk A220
      clear A220
      replace H := Option.bind_eq_some_iff.mp H
      obtain ⟨t130, A230, H⟩ := H
      replace H : (if (wrap64 (t120 - t122)) > a2 then (if x8_1.length < 5864062014805 then ((R_Put.f x116000_1 x116001_1 x116002_1 x10_1 t120).bind fun bt134 => (R_Trim.j1 k1 a2 (x8_1 ++ [(⟨x10_1, wrap64 (t120 - a2), a2⟩ : S27)]) (wrap64 (x9_1 + t130)) x10_1 t121 bt134.1 bt134.2.1 bt134.2.2 x116003_1 x116004_1 x116005_1 a1_0 a1_1 a1_2 a1_3 a1_4 a1_5)) else (none)) else ((R_Put.f x116000_1 x116001_1 x116002_1 x10_1 t120).bind fun bt137 => (R_Trim.j1 k1 a2 x8_1 (wrap64 (x9_1 + t130)) x10_1 t121 bt137.1 bt137.2.1 bt137.2.2 x116003_1 x116004_1 x116005_1 a1_0 a1_1 a1_2 a1_3 a1_4 a1_5))) = some (r1, r2) := H
      have A23 := Aside0.mk A230
      clear A230
      by_cases c24 : (wrap64 (t120 - t122)) > a2
      ·rw [if_pos c24] at H
       have c24b0 : decide (a2 < (wrap64 (t120 - t122))) = true := decide_eq_true c24
       clear c24
       by_cases c25 : x8_1.length < 5864062014805
       ·rw [if_pos c25] at H
        have LMc25 := Aside0.mk c25
        clear c25
        obtain ⟨y131, hy131⟩ : ∃ y_ : List (S27), y_ = (x8_1 ++ [(⟨x10_1, wrap64 (t120 - a2), a2⟩ : S27)]) := ⟨_, rfl⟩
        replace H : ((R_Put.f x116000_1 x116001_1 x116002_1 x10_1 t120).bind fun bt134 => (R_Trim.j1 k1 a2 y131 (wrap64 (x9_1 + t130)) x10_1 t121 bt134.1 bt134.2.1 bt134.2.2 x116003_1 x116004_1 x116005_1 a1_0 a1_1 a1_2 a1_3 a1_4 a1_5)) = some (r1, r2) := by first | (rw [hy131]; with_reducible exact H) | (have H2_ := (Option.bind_some _ _).symm.trans H; rw [hy131]; with_reducible exact H2_) | (have H2_ := (Option.bind_some _ _).symm.trans H; with_reducible exact H2_) | with_reducible exact H | (rw [hy131]; exact H) | exact H
        have Ny131 := Aside0.mk hy131
        clear hy131
        replace H := Option.bind_eq_some_iff.mp H
        obtain ⟨⟨t134, t135, t136⟩, A260, H⟩ := H
        replace H : (R_Trim.j1 k1 a2 y131 (wrap64 (x9_1 + t130)) x10_1 t121 t134 t135 t136 x116003_1 x116004_1 x116005_1 a1_0 a1_1 a1_2 a1_3 a1_4 a1_5) = some (r1, r2) := H
        have A26 := Aside0.mk A260
        clear A260
        have H' := Aside0.mk H
        clear H
        have hnb27 := NB115_116.out
        have hnc27 := NB116_115.out
        have hcz28_0 : w18.cell? ⟨gb115, 0, none⟩ = some (.int .i64 x116000_1) := (blk_cell BK115.out 0).trans rfl
        have hcz28_1 : w18.cell? ⟨gb115, 1, none⟩ = some (.int .i64 x116001_1) := (blk_cell BK115.out 1).trans rfl
        have hcz28_2 : w18.cell? ⟨gb115, 2, none⟩ = some (.int .i64 x116002_1) := (blk_cell BK115.out 2).trans rfl
        have hcz28_3 : w18.cell? ⟨gb115, 3, none⟩ = some (.int .i64 x116003_1) := (blk_cell BK115.out 3).trans rfl
        have hcz28_4 : w18.cell? ⟨gb115, 4, none⟩ = some (.int .i64 x116004_1) := (blk_cell BK115.out 4).trans rfl
        have hcz28_5 : w18.cell? ⟨gb115, 5, none⟩ = some (.int .i64 x116005_1) := (blk_cell BK115.out 5).trans rfl
        have hfz28_0 := blk_frozen BK115.out 0
        have hfz28_1 := blk_frozen BK115.out 1
        have hfz28_2 := blk_frozen BK115.out 2
        have hfz28_3 := blk_frozen BK115.out 3
        have hfz28_4 := blk_frozen BK115.out 4
        have hfz28_5 := blk_frozen BK115.out 5
        try go_wp2_with (first | ((with_reducible refine gate_dst (N := 14) rfl ?_); refine box_event ?hg (N := 14) ?hd (cs := #[.int .i64 0, .int .i64 0, .int .i64 0, .int .i64 0, .int .i64 0, .int .i64 0]) (t := 25) ?hr ?_; (case hd => rfl); (case hg => rfl); (case hr => first | (go_simp; done) | (go_simp; rfl)); intro gb123 hg w29 hbox hb; have n0_ := Aside0.mk (KT.rbL HO_8.out hb); have n1_ := Aside0.mk (KT.bL BK115.out hb); have n2_ := Aside0.mk (KT.bL BK116.out hb); have n3_ := Aside0.mk (below_step (by repeat (first | (with_reducible first | exact HB.out | apply below_alloc | apply pw_below_drewN | apply below_drew1 | refine below_set ?_ GE115.out | refine below_set ?_ GE116.out) | exact HB.out)) hb); have n4_ := Aside0.mk (hbox); have n5_ := Aside0.mk ((by rw [hg]; exact (below_size (by repeat (first | (with_reducible first | exact HB.out | apply below_alloc | apply pw_below_drewN | apply below_drew1 | refine below_set ?_ GE115.out | refine below_set ?_ GE116.out) | exact HB.out))) : w.heap.size ≤ gb123)); have n6_ := Aside0.mk ((by rw [hg]; exact (below_size (by repeat (first | (with_reducible first | exact HB.out | apply below_alloc | apply pw_below_drewN | apply below_drew1 | refine below_set ?_ GE115.out | refine below_set ?_ GE116.out) | exact HB.out))) : w.heap.size ≤ gb123)); have n7_ := Aside0.mk ((by rw [hg]; exact Nat.ne_of_lt (KT.lL BK115.out) : gb115 ≠ gb123)); have n8_ := Aside0.mk ((by rw [hg]; exact Nat.ne_of_gt (KT.lL BK115.out) : gb123 ≠ gb115)); have n9_ := Aside0.mk ((by rw [hg]; exact Nat.ne_of_lt (KT.lL BK116.out) : gb116 ≠ gb123)); have n10_ := Aside0.mk ((by rw [hg]; exact Nat.ne_of_gt (KT.lL BK116.out) : gb123 ≠ gb116)); clear HO_8; clear BK115; clear BK116; clear HB; have HO_8 := n0_; have BK115 := n1_; have BK116 := n2_; have HB := n3_; have BK123 := n4_; have GW123 := n5_; have GE123 := n6_; have NB115_123 := n7_; have NB123_115 := n8_; have NB116_123 := n9_; have NB123_116 := n10_; clear n0_ n1_ n2_ n3_ n4_ n5_ n6_ n7_ n8_ n9_ n10_; clear hb hbox hg; have hnb30 := NB123_115.out; have hnc30 := NB115_123.out; have hnb31 := NB123_116.out; have hnc31 := NB116_123.out; have hcz32_0 : w29.cell? ⟨gb123, 0, none⟩ = some (.int .i64 0) := (blk_cell BK123.out 0).trans rfl; have hcz32_1 : w29.cell? ⟨gb123, 1, none⟩ = some (.int .i64 0) := (blk_cell BK123.out 1).trans rfl; have hcz32_2 : w29.cell? ⟨gb123, 2, none⟩ = some (.int .i64 0) := (blk_cell BK123.out 2).trans rfl; have hcz32_3 : w29.cell? ⟨gb123, 3, none⟩ = some (.int .i64 0) := (blk_cell BK123.out 3).trans rfl; have hcz32_4 : w29.cell? ⟨gb123, 4, none⟩ = some (.int .i64 0) := (blk_cell BK123.out 4).trans rfl; have hcz32_5 : w29.cell? ⟨gb123, 5, none⟩ = some (.int .i64 0) := (blk_cell BK123.out 5).trans rfl; have hfz32_0 := blk_frozen BK123.out 0; have hfz32_1 := blk_frozen BK123.out 1; have hfz32_2 := blk_frozen BK123.out 2; have hfz32_3 := blk_frozen BK123.out 3; have hfz32_4 := blk_frozen BK123.out 4; have hfz32_5 := blk_frozen BK123.out 5))
        have n0_ : Aside0 (Kd.R k27 27 ((((((w29.setCell ⟨gb123, 0, none⟩ (.int .i64 x116000_1)).setCell ⟨gb123, 1, none⟩ (.int .i64 x116001_1)).setCell ⟨gb123, 2, none⟩ (.int .i64 x116002_1)).setCell ⟨gb123, 3, none⟩ (.int .i64 x116003_1)).setCell ⟨gb123, 4, none⟩ (.int .i64 x116004_1)).setCell ⟨gb123, 5, none⟩ (.int .i64 x116005_1)) w.heap.size (fun _ => True) u8 x8_1) := ⟨by (with_reducible repeat (first | apply Kd.R_alloc | apply Kd.R_drewN | apply Kd.R_drew)); exact Kd.R_mono (Kd.R_far (p := ⟨gb123, 5, none⟩) (Kd.R_far (p := ⟨gb123, 4, none⟩) (Kd.R_far (p := ⟨gb123, 3, none⟩) (Kd.R_far (p := ⟨gb123, 2, none⟩) (Kd.R_far (p := ⟨gb123, 1, none⟩) (Kd.R_far (p := ⟨gb123, 0, none⟩) (Kd.R_types HO_8.out BK123.out (by decide)) (fun _ hk => hk.2) (.int .i64 x116000_1)) (fun _ hk => hk.2) (.int .i64 x116001_1)) (fun _ hk => hk.2) (.int .i64 x116002_1)) (fun _ hk => hk.2) (.int .i64 x116003_1)) (fun _ hk => hk.2) (.int .i64 x116004_1)) (fun _ hk => hk.2) (.int .i64 x116005_1)) (fun _ hk => trivial)⟩
        have n1_ : Aside0 (((((((w29.setCell ⟨gb123, 0, none⟩ (.int .i64 x116000_1)).setCell ⟨gb123, 1, none⟩ (.int .i64 x116001_1)).setCell ⟨gb123, 2, none⟩ (.int .i64 x116002_1)).setCell ⟨gb123, 3, none⟩ (.int .i64 x116003_1)).setCell ⟨gb123, 4, none⟩ (.int .i64 x116004_1)).setCell ⟨gb123, 5, none⟩ (.int .i64 x116005_1)).heap[gb115]? = some (.cells #[.int .i64 x116000_1, .int .i64 x116001_1, .int .i64 x116002_1, .int .i64 x116003_1, .int .i64 x116004_1, .int .i64 x116005_1] 25 (0, 0))) := ⟨by (with_reducible repeat (first | refine blk_drewN ?_ _ | refine blk_drew ?_ | refine blk_alloc ?_ _ | refine blk_far ?_ NB115_123.out _)); exact BK115.out⟩
        have n2_ : Aside0 (((((((w29.setCell ⟨gb123, 0, none⟩ (.int .i64 x116000_1)).setCell ⟨gb123, 1, none⟩ (.int .i64 x116001_1)).setCell ⟨gb123, 2, none⟩ (.int .i64 x116002_1)).setCell ⟨gb123, 3, none⟩ (.int .i64 x116003_1)).setCell ⟨gb123, 4, none⟩ (.int .i64 x116004_1)).setCell ⟨gb123, 5, none⟩ (.int .i64 x116005_1)).heap[gb116]? = some (.cells #[.int .i64 a1_0, .int .i64 a1_1, .int .i64 a1_2, .int .i64 a1_3, .int .i64 a1_4, .int .i64 a1_5] 25 (0, 0))) := ⟨by (with_reducible repeat (first | refine blk_drewN ?_ _ | refine blk_drew ?_ | refine blk_alloc ?_ _ | refine blk_far ?_ NB116_123.out _)); exact BK116.out⟩
        have n3_ : Aside0 (((((((w29.setCell ⟨gb123, 0, none⟩ (.int .i64 x116000_1)).setCell ⟨gb123, 1, none⟩ (.int .i64 x116001_1)).setCell ⟨gb123, 2, none⟩ (.int .i64 x116002_1)).setCell ⟨gb123, 3, none⟩ (.int .i64 x116003_1)).setCell ⟨gb123, 4, none⟩ (.int .i64 x116004_1)).setCell ⟨gb123, 5, none⟩ (.int .i64 x116005_1)).heap[gb123]? = some (.cells #[.int .i64 x116000_1, .int .i64 x116001_1, .int .i64 x116002_1, .int .i64 x116003_1, .int .i64 x116004_1, .int .i64 x116005_1] 25 (0, 0))) := ⟨by (with_reducible repeat (first | refine blk_drewN ?_ _ | refine blk_drew ?_ | refine blk_alloc ?_ _)); refine blk_put (cs := #[.int .i64 x116000_1, .int .i64 x116001_1, .int .i64 x116002_1, .int .i64 x116003_1, .int .i64 x116004_1, .int .i64 0]) ?_ 5 _ rfl; (with_reducible repeat (first | refine blk_drewN ?_ _ | refine blk_drew ?_ | refine blk_alloc ?_ _)); refine blk_put (cs := #[.int .i64 x116000_1, .int .i64 x116001_1, .int .i64 x116002_1, .int .i64 x116003_1, .int .i64 0, .int .i64 0]) ?_ 4 _ rfl; (with_reducible repeat (first | refine blk_drewN ?_ _ | refine blk_drew ?_ | refine blk_alloc ?_ _)); refine blk_put (cs := #[.int .i64 x116000_1, .int .i64 x116001_1, .int .i64 x116002_1, .int .i64 0, .int .i64 0, .int .i64 0]) ?_ 3 _ rfl; (with_reducible repeat (first | refine blk_drewN ?_ _ | refine blk_drew ?_ | refine blk_alloc ?_ _)); refine blk_put (cs := #[.int .i64 x116000_1, .int .i64 x116001_1, .int .i64 0, .int .i64 0, .int .i64 0, .int .i64 0]) ?_ 2 _ rfl; (with_reducible repeat (first | refine blk_drewN ?_ _ | refine blk_drew ?_ | refine blk_alloc ?_ _)); refine blk_put (cs := #[.int .i64 x116000_1, .int .i64 0, .int .i64 0, .int .i64 0, .int .i64 0, .int .i64 0]) ?_ 1 _ rfl; (with_reducible repeat (first | refine blk_drewN ?_ _ | refine blk_drew ?_ | refine blk_alloc ?_ _)); refine blk_put (cs := #[.int .i64 0, .int .i64 0, .int .i64 0, .int .i64 0, .int .i64 0, .int .i64 0]) ?_ 0 _ rfl; (with_reducible repeat (first | refine blk_drewN ?_ _ | refine blk_drew ?_ | refine blk_alloc ?_ _)); exact BK123.out⟩
        have n4_ : Aside0 (Below w.heap.size w ((((((w29.setCell ⟨gb123, 0, none⟩ (.int .i64 x116000_1)).setCell ⟨gb123, 1, none⟩ (.int .i64 x116001_1)).setCell ⟨gb123, 2, none⟩ (.int .i64 x116002_1)).setCell ⟨gb123, 3, none⟩ (.int .i64 x116003_1)).setCell ⟨gb123, 4, none⟩ (.int .i64 x116004_1)).setCell ⟨gb123, 5, none⟩ (.int .i64 x116005_1))) := ⟨by repeat (first | (with_reducible first | exact HB.out | apply below_alloc | apply pw_below_drewN | apply below_drew1 | refine below_set ?_ GE115.out | refine below_set ?_ GE116.out | refine below_set ?_ GE123.out) | exact HB.out)⟩
        (try clear HO_8)
        (try clear BK115)
        (try clear BK116)
        (try clear BK123)
        (try clear HB)
        generalize ((((((w29.setCell ⟨gb123, 0, none⟩ (.int .i64 x116000_1)).setCell ⟨gb123, 1, none⟩ (.int .i64 x116001_1)).setCell ⟨gb123, 2, none⟩ (.int .i64 x116002_1)).setCell ⟨gb123, 3, none⟩ (.int .i64 x116003_1)).setCell ⟨gb123, 4, none⟩ (.int .i64 x116004_1)).setCell ⟨gb123, 5, none⟩ (.int .i64 x116005_1)) = w33 at n0_ n1_ n2_ n3_ n4_ ⊢
        have HO_8 := n0_
        have BK115 := n1_
        have BK116 := n2_
        have BK123 := n3_
        have HB := n4_
        clear n0_ n1_ n2_ n3_ n4_
        have n0_ := Aside0.mk (Kd.R_drew HO_8.out)
        have n1_ := Aside0.mk (blk_drew BK115.out)
        have n2_ := Aside0.mk (blk_drew BK116.out)
        have n3_ := Aside0.mk (blk_drew BK123.out)
        have n4_ := Aside0.mk (below_drew1 HB.out)
        clear HO_8
        clear BK115
        clear BK116
        clear BK123
        clear HB
        have HO_8 := n0_
        have BK115 := n1_
        have BK116 := n2_
        have BK123 := n3_
        have HB := n4_
        clear n0_ n1_ n2_ n3_ n4_
        refine start_ (n := 18) (S := fun w' => w'.cell? ⟨gb115, 0, none⟩ = some (.int .i64 x116000_1) ∧ w'.cell? ⟨gb115, 1, none⟩ = some (.int .i64 x116001_1) ∧ w'.cell? ⟨gb115, 2, none⟩ = some (.int .i64 x116002_1) ∧ w'.cell? ⟨gb115, 3, none⟩ = some (.int .i64 x116003_1) ∧ w'.cell? ⟨gb115, 4, none⟩ = some (.int .i64 x116004_1) ∧ w'.cell? ⟨gb115, 5, none⟩ = some (.int .i64 x116005_1)) (ds := []) #[false, false, false, false, false, false, false, false, false, false, false, false, false, false, false, false, false, false] (by kernel_rfl) rfl rfl ⟨(blk_cell BK115.out 0).trans rfl, (blk_cell BK115.out 1).trans rfl, (blk_cell BK115.out 2).trans rfl, (blk_cell BK115.out 3).trans rfl, (blk_cell BK115.out 4).trans rfl, (blk_cell BK115.out 5).trans rfl⟩ (fun hHeld => ?_); refine with_tabW R_Trim.tab10 R_Trim.bits10 (fun HT_ HW_ => ?_)
        generalize w33.drew = w34 at HO_8 BK115 BK116 BK123 HB hHeld ⊢
        refine pure_ (i := 0) (N := some 39) (v := ?_) (a' := ?_) #[true, false, false, false, false, false, false, false, false, false, false, false, false, false, false, false, false, false] rfl rfl (any_of HT_.out (by kernel_rfl)) (fun _ _ _ h => h) (Or.inl ⟨by rfl, ?_⟩) ?_ ?_
        rotate_left
        ·intro w'
         go_simp
         with_reducible rfl
        rotate_left
        ·simp only [Act.put, List.setIfInBounds_toArray, List.set_cons_zero, List.set_cons_succ, i64_w, i32_w]
         rfl
        refine pure_ (i := 2) (N := some 41) (v := ?_) (a' := ?_) #[true, false, true, false, false, false, false, false, false, false, false, false, false, false, false, false, false, false] rfl rfl (any_of HT_.out (by kernel_rfl)) (fun _ _ _ h => h) (Or.inl ⟨by rfl, ?_⟩) ?_ ?_
        rotate_left
        ·intro w'
         go_simp
         with_reducible rfl
        rotate_left
        ·simp only [Act.put, List.setIfInBounds_toArray, List.set_cons_zero, List.set_cons_succ, i64_w, i32_w]
         rfl
        refine pure_ (i := 3) (N := some 42) (v := ?_) (a' := ?_) #[true, false, true, true, false, false, false, false, false, false, false, false, false, false, false, false, false, false] rfl rfl (any_of HT_.out (by kernel_rfl)) (fun _ _ _ h => h) (Or.inl ⟨by rfl, ?_⟩) ?_ ?_
        rotate_left
        ·intro w'
         go_simp
         with_reducible rfl
        rotate_left
        ·simp only [Act.put, List.setIfInBounds_toArray, List.set_cons_zero, List.set_cons_succ, i64_w, i32_w]
         rfl
        refine pure_ (i := 4) (N := some 43) (v := ?_) (a' := ?_) #[true, false, true, true, true, false, false, false, false, false, false, false, false, false, false, false, false, false] rfl rfl (any_of HT_.out (by kernel_rfl)) (fun _ _ _ h => h) (Or.inl ⟨by rfl, ?_⟩) ?_ ?_
        rotate_left
        ·intro w'
         go_simp
         with_reducible rfl
        rotate_left
        ·simp only [Act.put, List.setIfInBounds_toArray, List.set_cons_zero, List.set_cons_succ, i64_w, i32_w]
         rfl
        refine pure_ (i := 5) (N := some 44) (v := ?_) (a' := ?_) #[true, false, true, true, true, true, false, false, false, false, false, false, false, false, false, false, false, false] rfl rfl (any_of HT_.out (by kernel_rfl)) (fun _ _ _ h => h) (Or.inl ⟨by rfl, ?_⟩) ?_ ?_
        rotate_left
        ·intro w'
         go_simp
         with_reducible rfl
        rotate_left
        ·simp only [Act.put, List.setIfInBounds_toArray, List.set_cons_zero, List.set_cons_succ, i64_w, i32_w]
         rfl
        refine pure_ (i := 6) (N := some 45) (v := ?_) (a' := ?_) #[true, false, true, true, true, true, true, false, false, false, false, false, false, false, false, false, false, false] rfl rfl (any_of HT_.out (by kernel_rfl)) (fun _ _ _ h => h) (Or.inl ⟨by rfl, ?_⟩) ?_ ?_
        rotate_left
        ·intro w'
         go_simp
         with_reducible rfl
        rotate_left
        ·simp only [Act.put, List.setIfInBounds_toArray, List.set_cons_zero, List.set_cons_succ, i64_w, i32_w]
         rfl
        refine pure_ (i := 7) (N := some 46) (v := ?_) (a' := ?_) #[true, false, true, true, true, true, true, true, false, false, false, false, false, false, false, false, false, false] rfl rfl (any_of HT_.out (by kernel_rfl)) (fun _ _ _ h => h) (Or.inl ⟨by rfl, ?_⟩) ?_ ?_
        rotate_left
        ·intro w'
         go_simp
         with_reducible rfl
        rotate_left
        ·simp only [Act.put, List.setIfInBounds_toArray, List.set_cons_zero, List.set_cons_succ, i64_w, i32_w]
         rfl
        refine pure_ (i := 9) (N := some 48) (v := ?_) (a' := ?_) #[true, false, true, true, true, true, true, true, false, true, false, false, false, false, false, false, false, false] rfl rfl (any_of HT_.out (by kernel_rfl)) (fun _ _ _ h => h) (Or.inl ⟨by rfl, ?_⟩) ?_ ?_
        rotate_left
        ·intro w'
         go_simp
         with_reducible rfl
        rotate_left
        ·simp only [Act.put, List.setIfInBounds_toArray, List.set_cons_zero, List.set_cons_succ, i64_w, i32_w]
         rfl
        refine pure_ (i := 11) (N := some 50) (v := ?_) (a' := ?_) #[true, false, true, true, true, true, true, true, false, true, false, true, false, false, false, false, false, false] rfl rfl (any_of HT_.out (by kernel_rfl)) (fun _ _ _ h => h) (Or.inl ⟨by rfl, ?_⟩) ?_ ?_
        rotate_left
        ·intro w'
         go_simp
         with_reducible rfl
        rotate_left
        ·simp only [Act.put, List.setIfInBounds_toArray, List.set_cons_zero, List.set_cons_succ, i64_w, i32_w]
         rfl
        refine pure_ (i := 12) (N := some 51) (v := ?_) (a' := ?_) #[true, false, true, true, true, true, true, true, false, true, false, true, true, false, false, false, false, false] rfl rfl (any_of HT_.out (by kernel_rfl)) (fun _ _ _ h => h) (Or.inl ⟨by rfl, ?_⟩) ?_ ?_
        rotate_left
        ·intro w'
         go_simp
         with_reducible rfl
        rotate_left
        ·simp only [Act.put, List.setIfInBounds_toArray, List.set_cons_zero, List.set_cons_succ, i64_w, i32_w]
         rfl
        refine take_ (i := 1) (N := some 40) (v := ?_) (a' := ?_) #[true, true, true, true, true, true, true, true, false, true, false, true, true, false, false, false, false, false] rfl rfl (take_ofW HT_.out HW_.out (by kernel_rfl)) (fun _ _ _ h => h) (Or.inl ⟨by rfl, ?_⟩) hHeld ?_ ?_
        rotate_left
        ·rintro w' ⟨s0, s1, s2, s3, s4, s5⟩
         go_simp
         with_reducible rfl
        rotate_left
        ·simp only [Act.put, List.setIfInBounds_toArray, List.set_cons_zero, List.set_cons_succ, i64_w, i32_w]
         rfl
        refine take_ (i := 10) (N := some 49) (v := ?_) (a' := ?_) #[true, true, true, true, true, true, true, true, false, true, true, true, true, false, false, false, false, false] rfl rfl (take_ofW HT_.out HW_.out (by kernel_rfl)) (fun _ _ _ h => h) (Or.inl ⟨by rfl, ?_⟩) hHeld ?_ ?_
        rotate_left
        ·rintro w' ⟨s0, s1, s2, s3, s4, s5⟩
         go_simp
         with_reducible rfl
        rotate_left
        ·simp only [Act.put, List.setIfInBounds_toArray, List.set_cons_zero, List.set_cons_succ, i64_w, i32_w]
         rfl
        refine one_ (i := 8) (N := some 47) #[true, true, true, true, true, true, true, true, true, true, true, true, true, false, false, false, false, false] rfl rfl (one_of HT_.out (by kernel_rfl)) (by decide) (fun K hK => ?_)
        refine goes_ Try.func49 (by kernel_rfl) rfl #[.agg #[.int .i64 x116000_1, .int .i64 x116001_1, .int .i64 x116002_1], .int .i64 x10_1, .int .i64 (wrap64 (t120 - (ji20)))] (by rfl) rfl rfl (by (try simp only [List.map_toArray, List.map_cons, List.map_nil]); first | done | (simp only [hji20]; rfl) | rfl | (simp only [List.length_drop, List.length_take]; rfl)) ?_
        with_reducible refine (R_Put.calls x116000_1 x116001_1 x116002_1 x10_1 (wrap64 (t120 - (ji20))) t124 t125 t126 _ A21.out).mono ?_
        rintro e w35 ⟨rfl, hb⟩
        refine ⟨_, rfl, ?_⟩
        have n0_ := Aside0.mk (KT.rbL HO_8.out hb)
        have n1_ := Aside0.mk (KT.bL BK115.out hb)
        have n2_ := Aside0.mk (KT.bL BK116.out hb)
        have n3_ := Aside0.mk (KT.bL BK123.out hb)
        have n4_ := Aside0.mk (below_step (by repeat (first | (with_reducible first | exact HB.out | apply below_alloc | apply pw_below_drewN | apply below_drew1 | refine below_set ?_ GE115.out | refine below_set ?_ GE116.out | refine below_set ?_ GE123.out) | exact HB.out)) hb)
        clear HO_8
        clear BK115
        clear BK116
        clear BK123
        clear HB
        have HO_8 := n0_
        have BK115 := n1_
        have BK116 := n2_
        have BK123 := n3_
        have HB := n4_
        clear n0_ n1_ n2_ n3_ n4_
        (try clear hb)
        (try clear hb2)
        (try clear hk)
        (try clear hi)
        refine hK.out _ _ ⟨(blk_cell BK115.out 0).trans rfl, (blk_cell BK115.out 1).trans rfl, (blk_cell BK115.out 2).trans rfl, (blk_cell BK115.out 3).trans rfl, (blk_cell BK115.out 4).trans rfl, (blk_cell BK115.out 5).trans rfl⟩ (fun hHeld => ?_)
        clear hK K
        refine norm_ (a' := ?_) ?_ ?_
        rotate_left
        ·show Act.put _ (some 47) _ = _
         simp only [Act.put, List.setIfInBounds_toArray, List.set_cons_zero, List.set_cons_succ, i64_w, i32_w]
         rfl
        refine pure_ (i := 14) (N := some 53) (v := ?_) (a' := ?_) #[true, true, true, true, true, true, true, true, true, true, true, true, true, false, true, false, false, false] rfl rfl (any_of HT_.out (by kernel_rfl)) (fun _ _ _ h => h) (Or.inl ⟨by rfl, ?_⟩) ?_ ?_
        rotate_left
        ·intro w'
         go_simp
         with_reducible rfl
        rotate_left
        ·simp only [Act.put, List.setIfInBounds_toArray, List.set_cons_zero, List.set_cons_succ, i64_w, i32_w]
         rfl
        refine one_ (i := 13) (N := some 52) #[true, true, true, true, true, true, true, true, true, true, true, true, true, true, true, false, false, false] rfl rfl (one_of HT_.out (by kernel_rfl)) (by decide) (fun K hK => ?_)
        refine goes_ Try.func49 (by kernel_rfl) rfl #[.agg #[.int .i64 x116003_1, .int .i64 x116004_1, .int .i64 x116005_1], .int .i64 x10_1, .int .i64 t120] (by rfl) rfl rfl (by (try simp only [List.map_toArray, List.map_cons, List.map_nil]); first | done | rfl) ?_
        with_reducible refine (R_Put.calls x116003_1 x116004_1 x116005_1 x10_1 t120 t127 t128 t129 _ A22.out).mono ?_
        rintro e w36 ⟨rfl, hb⟩
        refine ⟨_, rfl, ?_⟩
        have n0_ := Aside0.mk (KT.rbL HO_8.out hb)
        have n1_ := Aside0.mk (KT.bL BK115.out hb)
        have n2_ := Aside0.mk (KT.bL BK116.out hb)
        have n3_ := Aside0.mk (KT.bL BK123.out hb)
        have n4_ := Aside0.mk (below_step (by repeat (first | (with_reducible first | exact HB.out | apply below_alloc | apply pw_below_drewN | apply below_drew1 | refine below_set ?_ GE115.out | refine below_set ?_ GE116.out | refine below_set ?_ GE123.out) | exact HB.out)) hb)
        clear HO_8
        clear BK115
        clear BK116
        clear BK123
        clear HB
        have HO_8 := n0_
        have BK115 := n1_
        have BK116 := n2_
        have BK123 := n3_
        have HB := n4_
        clear n0_ n1_ n2_ n3_ n4_
        (try clear hb)
        (try clear hb2)
        (try clear hk)
        (try clear hi)
        refine hK.out _ _ ⟨(blk_cell BK115.out 0).trans rfl, (blk_cell BK115.out 1).trans rfl, (blk_cell BK115.out 2).trans rfl, (blk_cell BK115.out 3).trans rfl, (blk_cell BK115.out 4).trans rfl, (blk_cell BK115.out 5).trans rfl⟩ (fun hHeld => ?_)
        clear hK K
        refine norm_ (a' := ?_) ?_ ?_
        rotate_left
        ·show Act.put _ (some 52) _ = _
         simp only [Act.put, List.setIfInBounds_toArray, List.set_cons_zero, List.set_cons_succ, i64_w, i32_w]
         rfl
        refine one_ (i := 15) (N := none) #[true, true, true, true, true, true, true, true, true, true, true, true, true, true, true, true, false, false] rfl rfl (one_of HT_.out (by kernel_rfl)) (by decide) (fun K hK => ?_)
        have hs37 : w36.cell? ⟨gb123, 0, none⟩ = some (.int .i64 x116000_1) := (blk_cell BK123.out 0).trans rfl
        have hfs37 := blk_frozen BK123.out 0
        have hns37_0 := NB115_123.out
        have hns37_1 := NB116_123.out
        have hms37_0 := NB123_115.out
        have hms37_1 := NB123_116.out
        have hs38 : w36.cell? ⟨gb123, 1, none⟩ = some (.int .i64 x116001_1) := (blk_cell BK123.out 1).trans rfl
        have hfs38 := blk_frozen BK123.out 1
        have hns38_0 := NB115_123.out
        have hns38_1 := NB116_123.out
        have hms38_0 := NB123_115.out
        have hms38_1 := NB123_116.out
        have hs39 : w36.cell? ⟨gb123, 2, none⟩ = some (.int .i64 x116002_1) := (blk_cell BK123.out 2).trans rfl
        have hfs39 := blk_frozen BK123.out 2
        have hns39_0 := NB115_123.out
        have hns39_1 := NB116_123.out
        have hms39_0 := NB123_115.out
        have hms39_1 := NB123_116.out
        refine skip_ (w1 := ?_) (by rfl) rfl ?_ ?_
        rotate_left
        ·go_simp
         rfl
        refine hK.out _ _ ⟨((cell_far (p := ⟨gb123, _, none⟩) NB115_123.out _).trans (((cell_far (p := ⟨gb123, _, none⟩) NB115_123.out _).trans (((cell_far (p := ⟨gb123, _, none⟩) NB115_123.out _).trans (hHeld.1)))))), ((cell_far (p := ⟨gb123, _, none⟩) NB115_123.out _).trans (((cell_far (p := ⟨gb123, _, none⟩) NB115_123.out _).trans (((cell_far (p := ⟨gb123, _, none⟩) NB115_123.out _).trans (hHeld.2.1)))))), ((cell_far (p := ⟨gb123, _, none⟩) NB115_123.out _).trans (((cell_far (p := ⟨gb123, _, none⟩) NB115_123.out _).trans (((cell_far (p := ⟨gb123, _, none⟩) NB115_123.out _).trans (hHeld.2.2.1)))))), ((cell_far (p := ⟨gb123, _, none⟩) NB115_123.out _).trans (((cell_far (p := ⟨gb123, _, none⟩) NB115_123.out _).trans (((cell_far (p := ⟨gb123, _, none⟩) NB115_123.out _).trans (hHeld.2.2.2.1)))))), ((cell_far (p := ⟨gb123, _, none⟩) NB115_123.out _).trans (((cell_far (p := ⟨gb123, _, none⟩) NB115_123.out _).trans (((cell_far (p := ⟨gb123, _, none⟩) NB115_123.out _).trans (hHeld.2.2.2.2.1)))))), ((cell_far (p := ⟨gb123, _, none⟩) NB115_123.out _).trans (((cell_far (p := ⟨gb123, _, none⟩) NB115_123.out _).trans (((cell_far (p := ⟨gb123, _, none⟩) NB115_123.out _).trans (hHeld.2.2.2.2.2))))))⟩ (fun hHeld => ?_)
        clear hK K
        refine pure_ (i := 16) (N := some 54) (v := ?_) (a' := ?_) #[true, true, true, true, true, true, true, true, true, true, true, true, true, true, true, true, true, false] rfl rfl (any_of HT_.out (by kernel_rfl)) (fun _ _ _ h => h) (Or.inl ⟨by rfl, ?_⟩) ?_ ?_
        rotate_left
        ·intro w'
         go_simp
         with_reducible rfl
        rotate_left
        ·simp only [Act.put, List.setIfInBounds_toArray, List.set_cons_zero, List.set_cons_succ, i64_w, i32_w]
         rfl
        refine one_ (i := 17) (N := none) #[true, true, true, true, true, true, true, true, true, true, true, true, true, true, true, true, true, true] rfl rfl (one_of HT_.out (by kernel_rfl)) (by decide) (fun K hK => ?_)
        have hs40 : w36.cell? ⟨gb123, 3, none⟩ = some (.int .i64 x116003_1) := (blk_cell BK123.out 3).trans rfl
        have hfs40 := blk_frozen BK123.out 3
        have hns40_0 := NB115_123.out
        have hns40_1 := NB116_123.out
        have hms40_0 := NB123_115.out
        have hms40_1 := NB123_116.out
        have hs41 : w36.cell? ⟨gb123, 4, none⟩ = some (.int .i64 x116004_1) := (blk_cell BK123.out 4).trans rfl
        have hfs41 := blk_frozen BK123.out 4
        have hns41_0 := NB115_123.out
        have hns41_1 := NB116_123.out
        have hms41_0 := NB123_115.out
        have hms41_1 := NB123_116.out
        have hs42 : w36.cell? ⟨gb123, 5, none⟩ = some (.int .i64 x116005_1) := (blk_cell BK123.out 5).trans rfl
        have hfs42 := blk_frozen BK123.out 5
        have hns42_0 := NB115_123.out
        have hns42_1 := NB116_123.out
        have hms42_0 := NB123_115.out
        have hms42_1 := NB123_116.out
        refine skip_ (w1 := ?_) (by rfl) rfl ?_ ?_
        rotate_left
        ·go_simp
         rfl
        refine hK.out _ _ ⟨((cell_far (p := ⟨gb123, _, none⟩) NB115_123.out _).trans (((cell_far (p := ⟨gb123, _, none⟩) NB115_123.out _).trans (((cell_far (p := ⟨gb123, _, none⟩) NB115_123.out _).trans (hHeld.1)))))), ((cell_far (p := ⟨gb123, _, none⟩) NB115_123.out _).trans (((cell_far (p := ⟨gb123, _, none⟩) NB115_123.out _).trans (((cell_far (p := ⟨gb123, _, none⟩) NB115_123.out _).trans (hHeld.2.1)))))), ((cell_far (p := ⟨gb123, _, none⟩) NB115_123.out _).trans (((cell_far (p := ⟨gb123, _, none⟩) NB115_123.out _).trans (((cell_far (p := ⟨gb123, _, none⟩) NB115_123.out _).trans (hHeld.2.2.1)))))), ((cell_far (p := ⟨gb123, _, none⟩) NB115_123.out _).trans (((cell_far (p := ⟨gb123, _, none⟩) NB115_123.out _).trans (((cell_far (p := ⟨gb123, _, none⟩) NB115_123.out _).trans (hHeld.2.2.2.1)))))), ((cell_far (p := ⟨gb123, _, none⟩) NB115_123.out _).trans (((cell_far (p := ⟨gb123, _, none⟩) NB115_123.out _).trans (((cell_far (p := ⟨gb123, _, none⟩) NB115_123.out _).trans (hHeld.2.2.2.2.1)))))), ((cell_far (p := ⟨gb123, _, none⟩) NB115_123.out _).trans (((cell_far (p := ⟨gb123, _, none⟩) NB115_123.out _).trans (((cell_far (p := ⟨gb123, _, none⟩) NB115_123.out _).trans (hHeld.2.2.2.2.2))))))⟩ (fun hHeld => ?_)
        clear hK K
        refine done_ (done_of HT_.out (by kernel_rfl)) ?_
        have hcz43_0 : w36.cell? ⟨gb123, 0, none⟩ = some (.int .i64 x116000_1) := (blk_cell BK123.out 0).trans rfl
        have hcz43_1 : w36.cell? ⟨gb123, 1, none⟩ = some (.int .i64 x116001_1) := (blk_cell BK123.out 1).trans rfl
        have hcz43_2 : w36.cell? ⟨gb123, 2, none⟩ = some (.int .i64 x116002_1) := (blk_cell BK123.out 2).trans rfl
        have hcz43_3 : w36.cell? ⟨gb123, 3, none⟩ = some (.int .i64 x116003_1) := (blk_cell BK123.out 3).trans rfl
        have hcz43_4 : w36.cell? ⟨gb123, 4, none⟩ = some (.int .i64 x116004_1) := (blk_cell BK123.out 4).trans rfl
        have hcz43_5 : w36.cell? ⟨gb123, 5, none⟩ = some (.int .i64 x116005_1) := (blk_cell BK123.out 5).trans rfl
        have hfz43_0 := blk_frozen BK123.out 0
        have hfz43_1 := blk_frozen BK123.out 1
        have hfz43_2 := blk_frozen BK123.out 2
        have hfz43_3 := blk_frozen BK123.out 3
        have hfz43_4 := blk_frozen BK123.out 4
        have hfz43_5 := blk_frozen BK123.out 5
        try go_wp2_with (first | ((with_reducible refine gate_callee (f := 19) rfl ?_); refine goesL_ (some 57) rfl rfl Try.func19 (by kernel_rfl) rfl #[.agg #[.int .i64 t124, .int .i64 t125, .int .i64 t126, .int .i64 t127, .int .i64 t128, .int .i64 t129]] rfl (by (try simp only [List.map_toArray, List.map_cons, List.map_nil]); first | done | rfl) ?_; (with_reducible refine (R_Volume.calls t124 t125 t126 t127 t128 t129 t130 _ A23.out).mono ?_); rintro e w44 ⟨rfl, hb⟩; refine ⟨_, rfl, ?_⟩; have n0_ := Aside0.mk (Kd.R_below (by (with_reducible repeat (first | apply Kd.R_alloc | apply Kd.R_drewN | apply Kd.R_drew)); exact (Kd.R_mono (Kd.R_far (p := ⟨gb123, 5, none⟩) (Kd.R_far (p := ⟨gb123, 4, none⟩) (Kd.R_far (p := ⟨gb123, 3, none⟩) (Kd.R_far (p := ⟨gb123, 2, none⟩) (Kd.R_far (p := ⟨gb123, 1, none⟩) (Kd.R_far (p := ⟨gb123, 0, none⟩) (Kd.R_types HO_8.out BK123.out (by decide)) (fun _ hk => hk.2) (.int .i64 t124)) (fun _ hk => hk.2) (.int .i64 t125)) (fun _ hk => hk.2) (.int .i64 t126)) (fun _ hk => hk.2) (.int .i64 t127)) (fun _ hk => hk.2) (.int .i64 t128)) (fun _ hk => hk.2) (.int .i64 t129)) (fun _ h_ => h_.1))) hb); have n1_ := Aside0.mk (blk_below (g := gb115) (o := .cells #[.int .i64 x116000_1, .int .i64 x116001_1, .int .i64 x116002_1, .int .i64 x116003_1, .int .i64 x116004_1, .int .i64 x116005_1] 25 (0, 0)) (by (with_reducible repeat (first | refine blk_drewN ?_ _ | refine blk_drew ?_ | refine blk_alloc ?_ _ | refine blk_far ?_ NB115_123.out _)); exact BK115.out) hb); have n2_ := Aside0.mk (blk_below (g := gb116) (o := .cells #[.int .i64 a1_0, .int .i64 a1_1, .int .i64 a1_2, .int .i64 a1_3, .int .i64 a1_4, .int .i64 a1_5] 25 (0, 0)) (by (with_reducible repeat (first | refine blk_drewN ?_ _ | refine blk_drew ?_ | refine blk_alloc ?_ _ | refine blk_far ?_ NB116_123.out _)); exact BK116.out) hb); have n3_ := Aside0.mk (blk_below (g := gb123) (o := .cells #[.int .i64 t124, .int .i64 t125, .int .i64 t126, .int .i64 t127, .int .i64 t128, .int .i64 t129] 25 (0, 0)) (by (with_reducible repeat (first | refine blk_drewN ?_ _ | refine blk_drew ?_ | refine blk_alloc ?_ _)); refine blk_put (cs := #[.int .i64 t124, .int .i64 t125, .int .i64 t126, .int .i64 t127, .int .i64 t128, .int .i64 x116005_1]) ?_ 5 _ rfl; (with_reducible repeat (first | refine blk_drewN ?_ _ | refine blk_drew ?_ | refine blk_alloc ?_ _)); refine blk_put (cs := #[.int .i64 t124, .int .i64 t125, .int .i64 t126, .int .i64 t127, .int .i64 x116004_1, .int .i64 x116005_1]) ?_ 4 _ rfl; (with_reducible repeat (first | refine blk_drewN ?_ _ | refine blk_drew ?_ | refine blk_alloc ?_ _)); refine blk_put (cs := #[.int .i64 t124, .int .i64 t125, .int .i64 t126, .int .i64 x116003_1, .int .i64 x116004_1, .int .i64 x116005_1]) ?_ 3 _ rfl; (with_reducible repeat (first | refine blk_drewN ?_ _ | refine blk_drew ?_ | refine blk_alloc ?_ _)); refine blk_put (cs := #[.int .i64 t124, .int .i64 t125, .int .i64 x116002_1, .int .i64 x116003_1, .int .i64 x116004_1, .int .i64 x116005_1]) ?_ 2 _ rfl; (with_reducible repeat (first | refine blk_drewN ?_ _ | refine blk_drew ?_ | refine blk_alloc ?_ _)); refine blk_put (cs := #[.int .i64 t124, .int .i64 x116001_1, .int .i64 x116002_1, .int .i64 x116003_1, .int .i64 x116004_1, .int .i64 x116005_1]) ?_ 1 _ rfl; (with_reducible repeat (first | refine blk_drewN ?_ _ | refine blk_drew ?_ | refine blk_alloc ?_ _)); refine blk_put (cs := #[.int .i64 x116000_1, .int .i64 x116001_1, .int .i64 x116002_1, .int .i64 x116003_1, .int .i64 x116004_1, .int .i64 x116005_1]) ?_ 0 _ rfl; (with_reducible repeat (first | refine blk_drewN ?_ _ | refine blk_drew ?_ | refine blk_alloc ?_ _)); exact BK123.out) hb); have n4_ := Aside0.mk (below_step (by repeat (first | (with_reducible first | exact HB.out | apply below_alloc | apply pw_below_drewN | apply below_drew1 | refine below_set ?_ GE115.out | refine below_set ?_ GE116.out | refine below_set ?_ GE123.out) | exact HB.out)) hb); clear HO_8; clear BK115; clear BK116; clear BK123; clear HB; have HO_8 := n0_; have BK115 := n1_; have BK116 := n2_; have BK123 := n3_; have HB := n4_; clear n0_ n1_ n2_ n3_ n4_; (try clear hb); (try clear hb2); (try clear hk); (try clear hi)) | ((with_reducible refine gate_builtin (b := .append) (xs := #[.tmp 62, .tmp 69]) rfl ?_); at_builtin; refine Kd.R_append k27 (w0 := w) w.heap.size rfl (.tmp 62) (.tmp 69) 62 27 (.agg #[(.int .i64 0), (.int .i64 0), (.int .i64 0)]) 24 rfl Try.underlying62 info27 rfl (by decide) (by omega) u8 x8_1 (⟨x10_1, wrap64 (t120 - a2), a2⟩ : S27) [.int .i64 x10_1, .int .i64 (wrap64 (t120 - a2)), .int .i64 a2] (fun _ => True) (fun _ => False) rfl rfl ?aP (fun _ hk => hk.elim) ?aF ?aO ?aB ?aS ?aL ?_; (case aP => exact k27_mkM _ _ _ (⟨x10_1, wrap64 (t120 - a2), a2⟩ : S27)); (case aB => exact (by repeat (first | (with_reducible first | exact HB.out | apply below_alloc | apply pw_below_drewN | apply below_drew1 | refine below_set ?_ GE115.out | refine below_set ?_ GE116.out | refine below_set ?_ GE123.out) | exact HB.out))); (case aF => exact (fun _ _ => trivial)); (case aO => exact (by (with_reducible repeat (first | apply Kd.R_alloc | apply Kd.R_drewN | apply Kd.R_drew)); exact HO_8.out)); (case aS => exact (below_size (by repeat (first | (with_reducible first | exact HB.out | apply below_alloc | apply pw_below_drewN | apply below_drew1 | refine below_set ?_ GE115.out | refine below_set ?_ GE116.out | refine below_set ?_ GE123.out) | exact HB.out)))); (case aL => have := LMc25.out; omega); intro v132 w45 ho hb hg hat; rw [← Ny131.out] at ho; have n0_ := Aside0.mk (KT.gL BK115.out hg (Kd.R_ne HO_8.out BK115.out (by decide))); have n1_ := Aside0.mk (KT.gL BK116.out hg (Kd.R_ne HO_8.out BK116.out (by decide))); have n2_ := Aside0.mk (KT.gL BK123.out hg (Kd.R_ne HO_8.out BK123.out (by decide))); have n3_ := Aside0.mk (hb); have n4_ := Aside0.mk (ho); clear BK115; clear BK116; clear BK123; clear HB; clear HO_8; have BK115 := n0_; have BK116 := n1_; have BK123 := n2_; have HB := n3_; have HO133 := n4_; clear n0_ n1_ n2_ n3_ n4_; clear ho hb hg hat; have hcz46_0 : w45.cell? ⟨gb115, 0, none⟩ = some (.int .i64 x116000_1) := (blk_cell BK115.out 0).trans rfl; have hcz46_1 : w45.cell? ⟨gb115, 1, none⟩ = some (.int .i64 x116001_1) := (blk_cell BK115.out 1).trans rfl; have hcz46_2 : w45.cell? ⟨gb115, 2, none⟩ = some (.int .i64 x116002_1) := (blk_cell BK115.out 2).trans rfl; have hcz46_3 : w45.cell? ⟨gb115, 3, none⟩ = some (.int .i64 x116003_1) := (blk_cell BK115.out 3).trans rfl; have hcz46_4 : w45.cell? ⟨gb115, 4, none⟩ = some (.int .i64 x116004_1) := (blk_cell BK115.out 4).trans rfl; have hcz46_5 : w45.cell? ⟨gb115, 5, none⟩ = some (.int .i64 x116005_1) := (blk_cell BK115.out 5).trans rfl; have hfz46_0 := blk_frozen BK115.out 0; have hfz46_1 := blk_frozen BK115.out 1; have hfz46_2 := blk_frozen BK115.out 2; have hfz46_3 := blk_frozen BK115.out 3; have hfz46_4 := blk_frozen BK115.out 4; have hfz46_5 := blk_frozen BK115.out 5) | ((with_reducible refine gate_callee (f := 49) rfl ?_); refine goesL_ (some 75) rfl rfl Try.func49 (by kernel_rfl) rfl #[.agg #[.int .i64 x116000_1, .int .i64 x116001_1, .int .i64 x116002_1], .int .i64 x10_1, .int .i64 t120] rfl (by (try simp only [List.map_toArray, List.map_cons, List.map_nil]); first | done | rfl) ?_; (with_reducible refine (R_Put.calls x116000_1 x116001_1 x116002_1 x10_1 t120 t134 t135 t136 _ A26.out).mono ?_); rintro e w47 ⟨rfl, hb⟩; refine ⟨_, rfl, ?_⟩; have n0_ := Aside0.mk (KT.rbL HO133.out hb); have n1_ := Aside0.mk (KT.bL BK115.out hb); have n2_ := Aside0.mk (KT.bL BK116.out hb); have n3_ := Aside0.mk (KT.bL BK123.out hb); have n4_ := Aside0.mk (below_step (by repeat (first | (with_reducible first | exact HB.out | apply below_alloc | apply pw_below_drewN | apply below_drew1 | refine below_set ?_ GE115.out | refine below_set ?_ GE116.out | refine below_set ?_ GE123.out) | exact HB.out)) hb); clear HO133; clear BK115; clear BK116; clear BK123; clear HB; have HO133 := n0_; have BK115 := n1_; have BK116 := n2_; have BK123 := n3_; have HB := n4_; clear n0_ n1_ n2_ n3_ n4_; (try clear hb); (try clear hb2); (try clear hk); (try clear hi); have hcz48_0 : w47.cell? ⟨gb115, 0, none⟩ = some (.int .i64 x116000_1) := (blk_cell BK115.out 0).trans rfl; have hcz48_1 : w47.cell? ⟨gb115, 1, none⟩ = some (.int .i64 x116001_1) := (blk_cell BK115.out 1).trans rfl; have hcz48_2 : w47.cell? ⟨gb115, 2, none⟩ = some (.int .i64 x116002_1) := (blk_cell BK115.out 2).trans rfl; have hcz48_3 : w47.cell? ⟨gb115, 3, none⟩ = some (.int .i64 x116003_1) := (blk_cell BK115.out 3).trans rfl; have hcz48_4 : w47.cell? ⟨gb115, 4, none⟩ = some (.int .i64 x116004_1) := (blk_cell BK115.out 4).trans rfl; have hcz48_5 : w47.cell? ⟨gb115, 5, none⟩ = some (.int .i64 x116005_1) := (blk_cell BK115.out 5).trans rfl; have hfz48_0 := blk_frozen BK115.out 0; have hfz48_1 := blk_frozen BK115.out 1; have hfz48_2 := blk_frozen BK115.out 2; have hfz48_3 := blk_frozen BK115.out 3; have hfz48_4 := blk_frozen BK115.out 4; have hfz48_5 := blk_frozen BK115.out 5))
        go_meet
        case rel => exact ⟨_, (y131), (wrap64 (x9_1 + t130)), (t134), (t135), (t136), (by first | rfl | (simp; done) | (simp [*]; done)), H', ⟨by have := HK1.out; first | omega | exact Nat.le_refl _⟩, ⟨by (with_reducible repeat (first | apply Kd.R_alloc | apply Kd.R_drewN | apply Kd.R_drew)); exact Kd.R_mono (Kd.R_far (p := ⟨gb115, 2, none⟩) (Kd.R_far (p := ⟨gb115, 1, none⟩) (Kd.R_far (p := ⟨gb115, 0, none⟩) (Kd.R_types HO133.out BK115.out (by decide)) (fun _ hk => hk.2) (.int .i64 t134)) (fun _ hk => hk.2) (.int .i64 t135)) (fun _ hk => hk.2) (.int .i64 t136)) (fun _ hk => trivial)⟩, ⟨by (with_reducible repeat (first | refine blk_drewN ?_ _ | refine blk_drew ?_ | refine blk_alloc ?_ _)); refine blk_put (cs := #[.int .i64 t134, .int .i64 t135, .int .i64 x116002_1, .int .i64 x116003_1, .int .i64 x116004_1, .int .i64 x116005_1]) ?_ 2 _ rfl; (with_reducible repeat (first | refine blk_drewN ?_ _ | refine blk_drew ?_ | refine blk_alloc ?_ _)); refine blk_put (cs := #[.int .i64 t134, .int .i64 x116001_1, .int .i64 x116002_1, .int .i64 x116003_1, .int .i64 x116004_1, .int .i64 x116005_1]) ?_ 1 _ rfl; (with_reducible repeat (first | refine blk_drewN ?_ _ | refine blk_drew ?_ | refine blk_alloc ?_ _)); refine blk_put (cs := #[.int .i64 x116000_1, .int .i64 x116001_1, .int .i64 x116002_1, .int .i64 x116003_1, .int .i64 x116004_1, .int .i64 x116005_1]) ?_ 0 _ rfl; (with_reducible repeat (first | refine blk_drewN ?_ _ | refine blk_drew ?_ | refine blk_alloc ?_ _)); exact BK115.out⟩, ⟨by (with_reducible repeat (first | refine blk_drewN ?_ _ | refine blk_drew ?_ | refine blk_alloc ?_ _ | refine blk_far ?_ NB116_115.out _)); exact BK116.out⟩, ⟨by repeat (first | (with_reducible first | exact HB.out | apply below_alloc | apply pw_below_drewN | apply below_drew1 | refine below_set ?_ GE115.out | refine below_set ?_ GE116.out | refine below_set ?_ GE123.out) | exact HB.out)⟩⟩
       ·rw [if_neg c25] at H
        exact absurd H (by simp)
      ·rw [if_neg c24] at H
       have c24b0 : decide (a2 < (wrap64 (t120 - t122))) = false := decide_eq_false c24
       clear c24
       replace H := Option.bind_eq_some_iff.mp H
       obtain ⟨⟨t137, t138, t139⟩, A490, H⟩ := H
       replace H : (R_Trim.j1 k1 a2 x8_1 (wrap64 (x9_1 + t130)) x10_1 t121 t137 t138 t139 x116003_1 x116004_1 x116005_1 a1_0 a1_1 a1_2 a1_3 a1_4 a1_5) = some (r1, r2) := H
       have A49 := Aside0.mk A490
       clear A490
       have H' := Aside0.mk H
       clear H
       have hnb50 := NB115_116.out
       have hnc50 := NB116_115.out
       have hcz51_0 : w18.cell? ⟨gb115, 0, none⟩ = some (.int .i64 x116000_1) := (blk_cell BK115.out 0).trans rfl
       have hcz51_1 : w18.cell? ⟨gb115, 1, none⟩ = some (.int .i64 x116001_1) := (blk_cell BK115.out 1).trans rfl
       have hcz51_2 : w18.cell? ⟨gb115, 2, none⟩ = some (.int .i64 x116002_1) := (blk_cell BK115.out 2).trans rfl
       have hcz51_3 : w18.cell? ⟨gb115, 3, none⟩ = some (.int .i64 x116003_1) := (blk_cell BK115.out 3).trans rfl
       have hcz51_4 : w18.cell? ⟨gb115, 4, none⟩ = some (.int .i64 x116004_1) := (blk_cell BK115.out 4).trans rfl
       have hcz51_5 : w18.cell? ⟨gb115, 5, none⟩ = some (.int .i64 x116005_1) := (blk_cell BK115.out 5).trans rfl
       have hfz51_0 := blk_frozen BK115.out 0
       have hfz51_1 := blk_frozen BK115.out 1
       have hfz51_2 := blk_frozen BK115.out 2
       have hfz51_3 := blk_frozen BK115.out 3
       have hfz51_4 := blk_frozen BK115.out 4
       have hfz51_5 := blk_frozen BK115.out 5
       try go_wp2_with (first | ((with_reducible refine gate_dst (N := 14) rfl ?_); refine box_event ?hg (N := 14) ?hd (cs := #[.int .i64 0, .int .i64 0, .int .i64 0, .int .i64 0, .int .i64 0, .int .i64 0]) (t := 25) ?hr ?_; (case hd => rfl); (case hg => rfl); (case hr => first | (go_simp; done) | (go_simp; rfl)); intro gb123 hg w52 hbox hb; have n0_ := Aside0.mk (KT.rbL HO_8.out hb); have n1_ := Aside0.mk (KT.bL BK115.out hb); have n2_ := Aside0.mk (KT.bL BK116.out hb); have n3_ := Aside0.mk (below_step (by repeat (first | (with_reducible first | exact HB.out | apply below_alloc | apply pw_below_drewN | apply below_drew1 | refine below_set ?_ GE115.out | refine below_set ?_ GE116.out) | exact HB.out)) hb); have n4_ := Aside0.mk (hbox); have n5_ := Aside0.mk ((by rw [hg]; exact (below_size (by repeat (first | (with_reducible first | exact HB.out | apply below_alloc | apply pw_below_drewN | apply below_drew1 | refine below_set ?_ GE115.out | refine below_set ?_ GE116.out) | exact HB.out))) : w.heap.size ≤ gb123)); have n6_ := Aside0.mk ((by rw [hg]; exact (below_size (by repeat (first | (with_reducible first | exact HB.out | apply below_alloc | apply pw_below_drewN | apply below_drew1 | refine below_set ?_ GE115.out | refine below_set ?_ GE116.out) | exact HB.out))) : w.heap.size ≤ gb123)); have n7_ := Aside0.mk ((by rw [hg]; exact Nat.ne_of_lt (KT.lL BK115.out) : gb115 ≠ gb123)); have n8_ := Aside0.mk ((by rw [hg]; exact Nat.ne_of_gt (KT.lL BK115.out) : gb123 ≠ gb115)); have n9_ := Aside0.mk ((by rw [hg]; exact Nat.ne_of_lt (KT.lL BK116.out) : gb116 ≠ gb123)); have n10_ := Aside0.mk ((by rw [hg]; exact Nat.ne_of_gt (KT.lL BK116.out) : gb123 ≠ gb116)); clear HO_8; clear BK115; clear BK116; clear HB; have HO_8 := n0_; have BK115 := n1_; have BK116 := n2_; have HB := n3_; have BK123 := n4_; have GW123 := n5_; have GE123 := n6_; have NB115_123 := n7_; have NB123_115 := n8_; have NB116_123 := n9_; have NB123_116 := n10_; clear n0_ n1_ n2_ n3_ n4_ n5_ n6_ n7_ n8_ n9_ n10_; clear hb hbox hg; have hnb53 := NB123_115.out; have hnc53 := NB115_123.out; have hnb54 := NB123_116.out; have hnc54 := NB116_123.out; have hcz55_0 : w52.cell? ⟨gb123, 0, none⟩ = some (.int .i64 0) := (blk_cell BK123.out 0).trans rfl; have hcz55_1 : w52.cell? ⟨gb123, 1, none⟩ = some (.int .i64 0) := (blk_cell BK123.out 1).trans rfl; have hcz55_2 : w52.cell? ⟨gb123, 2, none⟩ = some (.int .i64 0) := (blk_cell BK123.out 2).trans rfl; have hcz55_3 : w52.cell? ⟨gb123, 3, none⟩ = some (.int .i64 0) := (blk_cell BK123.out 3).trans rfl; have hcz55_4 : w52.cell? ⟨gb123, 4, none⟩ = some (.int .i64 0) := (blk_cell BK123.out 4).trans rfl; have hcz55_5 : w52.cell? ⟨gb123, 5, none⟩ = some (.int .i64 0) := (blk_cell BK123.out 5).trans rfl; have hfz55_0 := blk_frozen BK123.out 0; have hfz55_1 := blk_frozen BK123.out 1; have hfz55_2 := blk_frozen BK123.out 2; have hfz55_3 := blk_frozen BK123.out 3; have hfz55_4 := blk_frozen BK123.out 4; have hfz55_5 := blk_frozen BK123.out 5))
       have n0_ : Aside0 (Kd.R k27 27 ((((((w52.setCell ⟨gb123, 0, none⟩ (.int .i64 x116000_1)).setCell ⟨gb123, 1, none⟩ (.int .i64 x116001_1)).setCell ⟨gb123, 2, none⟩ (.int .i64 x116002_1)).setCell ⟨gb123, 3, none⟩ (.int .i64 x116003_1)).setCell ⟨gb123, 4, none⟩ (.int .i64 x116004_1)).setCell ⟨gb123, 5, none⟩ (.int .i64 x116005_1)) w.heap.size (fun _ => True) u8 x8_1) := ⟨by (with_reducible repeat (first | apply Kd.R_alloc | apply Kd.R_drewN | apply Kd.R_drew)); exact Kd.R_mono (Kd.R_far (p := ⟨gb123, 5, none⟩) (Kd.R_far (p := ⟨gb123, 4, none⟩) (Kd.R_far (p := ⟨gb123, 3, none⟩) (Kd.R_far (p := ⟨gb123, 2, none⟩) (Kd.R_far (p := ⟨gb123, 1, none⟩) (Kd.R_far (p := ⟨gb123, 0, none⟩) (Kd.R_types HO_8.out BK123.out (by decide)) (fun _ hk => hk.2) (.int .i64 x116000_1)) (fun _ hk => hk.2) (.int .i64 x116001_1)) (fun _ hk => hk.2) (.int .i64 x116002_1)) (fun _ hk => hk.2) (.int .i64 x116003_1)) (fun _ hk => hk.2) (.int .i64 x116004_1)) (fun _ hk => hk.2) (.int .i64 x116005_1)) (fun _ hk => trivial)⟩
       have n1_ : Aside0 (((((((w52.setCell ⟨gb123, 0, none⟩ (.int .i64 x116000_1)).setCell ⟨gb123, 1, none⟩ (.int .i64 x116001_1)).setCell ⟨gb123, 2, none⟩ (.int .i64 x116002_1)).setCell ⟨gb123, 3, none⟩ (.int .i64 x116003_1)).setCell ⟨gb123, 4, none⟩ (.int .i64 x116004_1)).setCell ⟨gb123, 5, none⟩ (.int .i64 x116005_1)).heap[gb115]? = some (.cells #[.int .i64 x116000_1, .int .i64 x116001_1, .int .i64 x116002_1, .int .i64 x116003_1, .int .i64 x116004_1, .int .i64 x116005_1] 25 (0, 0))) := ⟨by (with_reducible repeat (first | refine blk_drewN ?_ _ | refine blk_drew ?_ | refine blk_alloc ?_ _ | refine blk_far ?_ NB115_123.out _)); exact BK115.out⟩
       have n2_ : Aside0 (((((((w52.setCell ⟨gb123, 0, none⟩ (.int .i64 x116000_1)).setCell ⟨gb123, 1, none⟩ (.int .i64 x116001_1)).setCell ⟨gb123, 2, none⟩ (.int .i64 x116002_1)).setCell ⟨gb123, 3, none⟩ (.int .i64 x116003_1)).setCell ⟨gb123, 4, none⟩ (.int .i64 x116004_1)).setCell ⟨gb123, 5, none⟩ (.int .i64 x116005_1)).heap[gb116]? = some (.cells #[.int .i64 a1_0, .int .i64 a1_1, .int .i64 a1_2, .int .i64 a1_3, .int .i64 a1_4, .int .i64 a1_5] 25 (0, 0))) := ⟨by (with_reducible repeat (first | refine blk_drewN ?_ _ | refine blk_drew ?_ | refine blk_alloc ?_ _ | refine blk_far ?_ NB116_123.out _)); exact BK116.out⟩
       have n3_ : Aside0 (((((((w52.setCell ⟨gb123, 0, none⟩ (.int .i64 x116000_1)).setCell ⟨gb123, 1, none⟩ (.int .i64 x116001_1)).setCell ⟨gb123, 2, none⟩ (.int .i64 x116002_1)).setCell ⟨gb123, 3, none⟩ (.int .i64 x116003_1)).setCell ⟨gb123, 4, none⟩ (.int .i64 x116004_1)).setCell ⟨gb123, 5, none⟩ (.int .i64 x116005_1)).heap[gb123]? = some (.cells #[.int .i64 x116000_1, .int .i64 x116001_1, .int .i64 x116002_1, .int .i64 x116003_1, .int .i64 x116004_1, .int .i64 x116005_1] 25 (0, 0))) := ⟨by (with_reducible repeat (first | refine blk_drewN ?_ _ | refine blk_drew ?_ | refine blk_alloc ?_ _)); refine blk_put (cs := #[.int .i64 x116000_1, .int .i64 x116001_1, .int .i64 x116002_1, .int .i64 x116003_1, .int .i64 x116004_1, .int .i64 0]) ?_ 5 _ rfl; (with_reducible repeat (first | refine blk_drewN ?_ _ | refine blk_drew ?_ | refine blk_alloc ?_ _)); refine blk_put (cs := #[.int .i64 x116000_1, .int .i64 x116001_1, .int .i64 x116002_1, .int .i64 x116003_1, .int .i64 0, .int .i64 0]) ?_ 4 _ rfl; (with_reducible repeat (first | refine blk_drewN ?_ _ | refine blk_drew ?_ | refine blk_alloc ?_ _)); refine blk_put (cs := #[.int .i64 x116000_1, .int .i64 x116001_1, .int .i64 x116002_1, .int .i64 0, .int .i64 0, .int .i64 0]) ?_ 3 _ rfl; (with_reducible repeat (first | refine blk_drewN ?_ _ | refine blk_drew ?_ | refine blk_alloc ?_ _)); refine blk_put (cs := #[.int .i64 x116000_1, .int .i64 x116001_1, .int .i64 0, .int .i64 0, .int .i64 0, .int .i64 0]) ?_ 2 _ rfl; (with_reducible repeat (first | refine blk_drewN ?_ _ | refine blk_drew ?_ | refine blk_alloc ?_ _)); refine blk_put (cs := #[.int .i64 x116000_1, .int .i64 0, .int .i64 0, .int .i64 0, .int .i64 0, .int .i64 0]) ?_ 1 _ rfl; (with_reducible repeat (first | refine blk_drewN ?_ _ | refine blk_drew ?_ | refine blk_alloc ?_ _)); refine blk_put (cs := #[.int .i64 0, .int .i64 0, .int .i64 0, .int .i64 0, .int .i64 0, .int .i64 0]) ?_ 0 _ rfl; (with_reducible repeat (first | refine blk_drewN ?_ _ | refine blk_drew ?_ | refine blk_alloc ?_ _)); exact BK123.out⟩
       have n4_ : Aside0 (Below w.heap.size w ((((((w52.setCell ⟨gb123, 0, none⟩ (.int .i64 x116000_1)).setCell ⟨gb123, 1, none⟩ (.int .i64 x116001_1)).setCell ⟨gb123, 2, none⟩ (.int .i64 x116002_1)).setCell ⟨gb123, 3, none⟩ (.int .i64 x116003_1)).setCell ⟨gb123, 4, none⟩ (.int .i64 x116004_1)).setCell ⟨gb123, 5, none⟩ (.int .i64 x116005_1))) := ⟨by repeat (first | (with_reducible first | exact HB.out | apply below_alloc | apply pw_below_drewN | apply below_drew1 | refine below_set ?_ GE115.out | refine below_set ?_ GE116.out | refine below_set ?_ GE123.out) | exact HB.out)⟩
       (try clear HO_8)
       (try clear BK115)
       (try clear BK116)
       (try clear BK123)
       (try clear HB)
       generalize ((((((w52.setCell ⟨gb123, 0, none⟩ (.int .i64 x116000_1)).setCell ⟨gb123, 1, none⟩ (.int .i64 x116001_1)).setCell ⟨gb123, 2, none⟩ (.int .i64 x116002_1)).setCell ⟨gb123, 3, none⟩ (.int .i64 x116003_1)).setCell ⟨gb123, 4, none⟩ (.int .i64 x116004_1)).setCell ⟨gb123, 5, none⟩ (.int .i64 x116005_1)) = w56 at n0_ n1_ n2_ n3_ n4_ ⊢
       have HO_8 := n0_
       have BK115 := n1_
       have BK116 := n2_
       have BK123 := n3_
       have HB := n4_
       clear n0_ n1_ n2_ n3_ n4_
       have n0_ := Aside0.mk (Kd.R_drew HO_8.out)
       have n1_ := Aside0.mk (blk_drew BK115.out)
       have n2_ := Aside0.mk (blk_drew BK116.out)
       have n3_ := Aside0.mk (blk_drew BK123.out)
       have n4_ := Aside0.mk (below_drew1 HB.out)
       clear HO_8
       clear BK115
       clear BK116
       clear BK123
       clear HB
       have HO_8 := n0_
       have BK115 := n1_
       have BK116 := n2_
       have BK123 := n3_
       have HB := n4_
       clear n0_ n1_ n2_ n3_ n4_
       refine start_ (n := 18) (S := fun w' => w'.cell? ⟨gb115, 0, none⟩ = some (.int .i64 x116000_1) ∧ w'.cell? ⟨gb115, 1, none⟩ = some (.int .i64 x116001_1) ∧ w'.cell? ⟨gb115, 2, none⟩ = some (.int .i64 x116002_1) ∧ w'.cell? ⟨gb115, 3, none⟩ = some (.int .i64 x116003_1) ∧ w'.cell? ⟨gb115, 4, none⟩ = some (.int .i64 x116004_1) ∧ w'.cell? ⟨gb115, 5, none⟩ = some (.int .i64 x116005_1)) (ds := []) #[false, false, false, false, false, false, false, false, false, false, false, false, false, false, false, false, false, false] (by kernel_rfl) rfl rfl ⟨(blk_cell BK115.out 0).trans rfl, (blk_cell BK115.out 1).trans rfl, (blk_cell BK115.out 2).trans rfl, (blk_cell BK115.out 3).trans rfl, (blk_cell BK115.out 4).trans rfl, (blk_cell BK115.out 5).trans rfl⟩ (fun hHeld => ?_); refine with_tabW R_Trim.tab10 R_Trim.bits10 (fun HT_ HW_ => ?_)
       generalize w56.drew = w57 at HO_8 BK115 BK116 BK123 HB hHeld ⊢
       refine pure_ (i := 0) (N := some 39) (v := ?_) (a' := ?_) #[true, false, false, false, false, false, false, false, false, false, false, false, false, false, false, false, false, false] rfl rfl (any_of HT_.out (by kernel_rfl)) (fun _ _ _ h => h) (Or.inl ⟨by rfl, ?_⟩) ?_ ?_
       rotate_left
       ·intro w'
        go_simp
        with_reducible rfl
       rotate_left
       ·simp only [Act.put, List.setIfInBounds_toArray, List.set_cons_zero, List.set_cons_succ, i64_w, i32_w]
        rfl
       refine pure_ (i := 2) (N := some 41) (v := ?_) (a' := ?_) #[true, false, true, false, false, false, false, false, false, false, false, false, false, false, false, false, false, false] rfl rfl (any_of HT_.out (by kernel_rfl)) (fun _ _ _ h => h) (Or.inl ⟨by rfl, ?_⟩) ?_ ?_
       rotate_left
       ·intro w'
        go_simp
        with_reducible rfl
       rotate_left
       ·simp only [Act.put, List.setIfInBounds_toArray, List.set_cons_zero, List.set_cons_succ, i64_w, i32_w]
        rfl
       refine pure_ (i := 3) (N := some 42) (v := ?_) (a' := ?_) #[true, false, true, true, false, false, false, false, false, false, false, false, false, false, false, false, false, false] rfl rfl (any_of HT_.out (by kernel_rfl)) (fun _ _ _ h => h) (Or.inl ⟨by rfl, ?_⟩) ?_ ?_
       rotate_left
       ·intro w'
        go_simp
        with_reducible rfl
       rotate_left
       ·simp only [Act.put, List.setIfInBounds_toArray, List.set_cons_zero, List.set_cons_succ, i64_w, i32_w]
        rfl
       refine pure_ (i := 4) (N := some 43) (v := ?_) (a' := ?_) #[true, false, true, true, true, false, false, false, false, false, false, false, false, false, false, false, false, false] rfl rfl (any_of HT_.out (by kernel_rfl)) (fun _ _ _ h => h) (Or.inl ⟨by rfl, ?_⟩) ?_ ?_
       rotate_left
       ·intro w'
        go_simp
        with_reducible rfl
       rotate_left
       ·simp only [Act.put, List.setIfInBounds_toArray, List.set_cons_zero, List.set_cons_succ, i64_w, i32_w]
        rfl
       refine pure_ (i := 5) (N := some 44) (v := ?_) (a' := ?_) #[true, false, true, true, true, true, false, false, false, false, false, false, false, false, false, false, false, false] rfl rfl (any_of HT_.out (by kernel_rfl)) (fun _ _ _ h => h) (Or.inl ⟨by rfl, ?_⟩) ?_ ?_
       rotate_left
       ·intro w'
        go_simp
        with_reducible rfl
       rotate_left
       ·simp only [Act.put, List.setIfInBounds_toArray, List.set_cons_zero, List.set_cons_succ, i64_w, i32_w]
        rfl
       refine pure_ (i := 6) (N := some 45) (v := ?_) (a' := ?_) #[true, false, true, true, true, true, true, false, false, false, false, false, false, false, false, false, false, false] rfl rfl (any_of HT_.out (by kernel_rfl)) (fun _ _ _ h => h) (Or.inl ⟨by rfl, ?_⟩) ?_ ?_
       rotate_left
       ·intro w'
        go_simp
        with_reducible rfl
       rotate_left
       ·simp only [Act.put, List.setIfInBounds_toArray, List.set_cons_zero, List.set_cons_succ, i64_w, i32_w]
        rfl
       refine pure_ (i := 7) (N := some 46) (v := ?_) (a' := ?_) #[true, false, true, true, true, true, true, true, false, false, false, false, false, false, false, false, false, false] rfl rfl (any_of HT_.out (by kernel_rfl)) (fun _ _ _ h => h) (Or.inl ⟨by rfl, ?_⟩) ?_ ?_
       rotate_left
       ·intro w'
        go_simp
        with_reducible rfl
       rotate_left
       ·simp only [Act.put, List.setIfInBounds_toArray, List.set_cons_zero, List.set_cons_succ, i64_w, i32_w]
        rfl
       refine pure_ (i := 9) (N := some 48) (v := ?_) (a' := ?_) #[true, false, true, true, true, true, true, true, false, true, false, false, false, false, false, false, false, false] rfl rfl (any_of HT_.out (by kernel_rfl)) (fun _ _ _ h => h) (Or.inl ⟨by rfl, ?_⟩) ?_ ?_
       rotate_left
       ·intro w'
        go_simp
        with_reducible rfl
       rotate_left
       ·simp only [Act.put, List.setIfInBounds_toArray, List.set_cons_zero, List.set_cons_succ, i64_w, i32_w]
        rfl
       refine pure_ (i := 11) (N := some 50) (v := ?_) (a' := ?_) #[true, false, true, true, true, true, true, true, false, true, false, true, false, false, false, false, false, false] rfl rfl (any_of HT_.out (by kernel_rfl)) (fun _ _ _ h => h) (Or.inl ⟨by rfl, ?_⟩) ?_ ?_
       rotate_left
       ·intro w'
        go_simp
        with_reducible rfl
       rotate_left
       ·simp only [Act.put, List.setIfInBounds_toArray, List.set_cons_zero, List.set_cons_succ, i64_w, i32_w]
        rfl
       refine pure_ (i := 12) (N := some 51) (v := ?_) (a' := ?_) #[true, false, true, true, true, true, true, true, false, true, false, true, true, false, false, false, false, false] rfl rfl (any_of HT_.out (by kernel_rfl)) (fun _ _ _ h => h) (Or.inl ⟨by rfl, ?_⟩) ?_ ?_
       rotate_left
       ·intro w'
        go_simp
        with_reducible rfl
       rotate_left
       ·simp only [Act.put, List.setIfInBounds_toArray, List.set_cons_zero, List.set_cons_succ, i64_w, i32_w]
        rfl
       refine take_ (i := 1) (N := some 40) (v := ?_) (a' := ?_) #[true, true, true, true, true, true, true, true, false, true, false, true, true, false, false, false, false, false] rfl rfl (take_ofW HT_.out HW_.out (by kernel_rfl)) (fun _ _ _ h => h) (Or.inl ⟨by rfl, ?_⟩) hHeld ?_ ?_
       rotate_left
       ·rintro w' ⟨s0, s1, s2, s3, s4, s5⟩
        go_simp
        with_reducible rfl
       rotate_left
       ·simp only [Act.put, List.setIfInBounds_toArray, List.set_cons_zero, List.set_cons_succ, i64_w, i32_w]
        rfl
       refine take_ (i := 10) (N := some 49) (v := ?_) (a' := ?_) #[true, true, true, true, true, true, true, true, false, true, true, true, true, false, false, false, false, false] rfl rfl (take_ofW HT_.out HW_.out (by kernel_rfl)) (fun _ _ _ h => h) (Or.inl ⟨by rfl, ?_⟩) hHeld ?_ ?_
       rotate_left
       ·rintro w' ⟨s0, s1, s2, s3, s4, s5⟩
        go_simp
        with_reducible rfl
       rotate_left
       ·simp only [Act.put, List.setIfInBounds_toArray, List.set_cons_zero, List.set_cons_succ, i64_w, i32_w]
        rfl
       refine one_ (i := 8) (N := some 47) #[true, true, true, true, true, true, true, true, true, true, true, true, true, false, false, false, false, false] rfl rfl (one_of HT_.out (by kernel_rfl)) (by decide) (fun K hK => ?_)
       refine goes_ Try.func49 (by kernel_rfl) rfl #[.agg #[.int .i64 x116000_1, .int .i64 x116001_1, .int .i64 x116002_1], .int .i64 x10_1, .int .i64 (wrap64 (t120 - (ji20)))] (by rfl) rfl rfl (by (try simp only [List.map_toArray, List.map_cons, List.map_nil]); first | done | (simp only [hji20]; rfl) | rfl | (simp only [List.length_drop, List.length_take]; rfl)) ?_
       with_reducible refine (R_Put.calls x116000_1 x116001_1 x116002_1 x10_1 (wrap64 (t120 - (ji20))) t124 t125 t126 _ A21.out).mono ?_
       rintro e w58 ⟨rfl, hb⟩
       refine ⟨_, rfl, ?_⟩
       have n0_ := Aside0.mk (KT.rbL HO_8.out hb)
       have n1_ := Aside0.mk (KT.bL BK115.out hb)
       have n2_ := Aside0.mk (KT.bL BK116.out hb)
       have n3_ := Aside0.mk (KT.bL BK123.out hb)
       have n4_ := Aside0.mk (below_step (by repeat (first | (with_reducible first | exact HB.out | apply below_alloc | apply pw_below_drewN | apply below_drew1 | refine below_set ?_ GE115.out | refine below_set ?_ GE116.out | refine below_set ?_ GE123.out) | exact HB.out)) hb)
       clear HO_8
       clear BK115
       clear BK116
       clear BK123
       clear HB
       have HO_8 := n0_
       have BK115 := n1_
       have BK116 := n2_
       have BK123 := n3_
       have HB := n4_
       clear n0_ n1_ n2_ n3_ n4_
       (try clear hb)
       (try clear hb2)
       (try clear hk)
       (try clear hi)
       refine hK.out _ _ ⟨(blk_cell BK115.out 0).trans rfl, (blk_cell BK115.out 1).trans rfl, (blk_cell BK115.out 2).trans rfl, (blk_cell BK115.out 3).trans rfl, (blk_cell BK115.out 4).trans rfl, (blk_cell BK115.out 5).trans rfl⟩ (fun hHeld => ?_)
       clear hK K
       refine norm_ (a' := ?_) ?_ ?_
       rotate_left
       ·show Act.put _ (some 47) _ = _
        simp only [Act.put, List.setIfInBounds_toArray, List.set_cons_zero, List.set_cons_succ, i64_w, i32_w]
        rfl
       refine pure_ (i := 14) (N := some 53) (v := ?_) (a' := ?_) #[true, true, true, true, true, true, true, true, true, true, true, true, true, false, true, false, false, false] rfl rfl (any_of HT_.out (by kernel_rfl)) (fun _ _ _ h => h) (Or.inl ⟨by rfl, ?_⟩) ?_ ?_
       rotate_left
       ·intro w'
        go_simp
        with_reducible rfl
       rotate_left
       ·simp only [Act.put, List.setIfInBounds_toArray, List.set_cons_zero, List.set_cons_succ, i64_w, i32_w]
        rfl
       refine one_ (i := 13) (N := some 52) #[true, true, true, true, true, true, true, true, true, true, true, true, true, true, true, false, false, false] rfl rfl (one_of HT_.out (by kernel_rfl)) (by decide) (fun K hK => ?_)
       refine goes_ Try.func49 (by kernel_rfl) rfl #[.agg #[.int .i64 x116003_1, .int .i64 x116004_1, .int .i64 x116005_1], .int .i64 x10_1, .int .i64 t120] (by rfl) rfl rfl (by (try simp only [List.map_toArray, List.map_cons, List.map_nil]); first | done | rfl) ?_
       with_reducible refine (R_Put.calls x116003_1 x116004_1 x116005_1 x10_1 t120 t127 t128 t129 _ A22.out).mono ?_
       rintro e w59 ⟨rfl, hb⟩
       refine ⟨_, rfl, ?_⟩
       have n0_ := Aside0.mk (KT.rbL HO_8.out hb)
       have n1_ := Aside0.mk (KT.bL BK115.out hb)
       have n2_ := Aside0.mk (KT.bL BK116.out hb)
       have n3_ := Aside0.mk (KT.bL BK123.out hb)
       have n4_ := Aside0.mk (below_step (by repeat (first | (with_reducible first | exact HB.out | apply below_alloc | apply pw_below_drewN | apply below_drew1 | refine below_set ?_ GE115.out | refine below_set ?_ GE116.out | refine below_set ?_ GE123.out) | exact HB.out)) hb)
       clear HO_8
       clear BK115
       clear BK116
       clear BK123
       clear HB
       have HO_8 := n0_
       have BK115 := n1_
       have BK116 := n2_
       have BK123 := n3_
       have HB := n4_
       clear n0_ n1_ n2_ n3_ n4_
       (try clear hb)
       (try clear hb2)
       (try clear hk)
       (try clear hi)
       refine hK.out _ _ ⟨(blk_cell BK115.out 0).trans rfl, (blk_cell BK115.out 1).trans rfl, (blk_cell BK115.out 2).trans rfl, (blk_cell BK115.out 3).trans rfl, (blk_cell BK115.out 4).trans rfl, (blk_cell BK115.out 5).trans rfl⟩ (fun hHeld => ?_)
       clear hK K
       refine norm_ (a' := ?_) ?_ ?_
       rotate_left
       ·show Act.put _ (some 52) _ = _
        simp only [Act.put, List.setIfInBounds_toArray, List.set_cons_zero, List.set_cons_succ, i64_w, i32_w]
        rfl
       refine one_ (i := 15) (N := none) #[true, true, true, true, true, true, true, true, true, true, true, true, true, true, true, true, false, false] rfl rfl (one_of HT_.out (by kernel_rfl)) (by decide) (fun K hK => ?_)
       have hs60 : w59.cell? ⟨gb123, 0, none⟩ = some (.int .i64 x116000_1) := (blk_cell BK123.out 0).trans rfl
       have hfs60 := blk_frozen BK123.out 0
       have hns60_0 := NB115_123.out
       have hns60_1 := NB116_123.out
       have hms60_0 := NB123_115.out
       have hms60_1 := NB123_116.out
       have hs61 : w59.cell? ⟨gb123, 1, none⟩ = some (.int .i64 x116001_1) := (blk_cell BK123.out 1).trans rfl
       have hfs61 := blk_frozen BK123.out 1
       have hns61_0 := NB115_123.out
       have hns61_1 := NB116_123.out
       have hms61_0 := NB123_115.out
       have hms61_1 := NB123_116.out
       have hs62 : w59.cell? ⟨gb123, 2, none⟩ = some (.int .i64 x116002_1) := (blk_cell BK123.out 2).trans rfl
       have hfs62 := blk_frozen BK123.out 2
       have hns62_0 := NB115_123.out
       have hns62_1 := NB116_123.out
       have hms62_0 := NB123_115.out
       have hms62_1 := NB123_116.out
       refine skip_ (w1 := ?_) (by rfl) rfl ?_ ?_
       rotate_left
       ·go_simp
        rfl
       refine hK.out _ _ ⟨((cell_far (p := ⟨gb123, _, none⟩) NB115_123.out _).trans (((cell_far (p := ⟨gb123, _, none⟩) NB115_123.out _).trans (((cell_far (p := ⟨gb123, _, none⟩) NB115_123.out _).trans (hHeld.1)))))), ((cell_far (p := ⟨gb123, _, none⟩) NB115_123.out _).trans (((cell_far (p := ⟨gb123, _, none⟩) NB115_123.out _).trans (((cell_far (p := ⟨gb123, _, none⟩) NB115_123.out _).trans (hHeld.2.1)))))), ((cell_far (p := ⟨gb123, _, none⟩) NB115_123.out _).trans (((cell_far (p := ⟨gb123, _, none⟩) NB115_123.out _).trans (((cell_far (p := ⟨gb123, _, none⟩) NB115_123.out _).trans (hHeld.2.2.1)))))), ((cell_far (p := ⟨gb123, _, none⟩) NB115_123.out _).trans (((cell_far (p := ⟨gb123, _, none⟩) NB115_123.out _).trans (((cell_far (p := ⟨gb123, _, none⟩) NB115_123.out _).trans (hHeld.2.2.2.1)))))), ((cell_far (p := ⟨gb123, _, none⟩) NB115_123.out _).trans (((cell_far (p := ⟨gb123, _, none⟩) NB115_123.out _).trans (((cell_far (p := ⟨gb123, _, none⟩) NB115_123.out _).trans (hHeld.2.2.2.2.1)))))), ((cell_far (p := ⟨gb123, _, none⟩) NB115_123.out _).trans (((cell_far (p := ⟨gb123, _, none⟩) NB115_123.out _).trans (((cell_far (p := ⟨gb123, _, none⟩) NB115_123.out _).trans (hHeld.2.2.2.2.2))))))⟩ (fun hHeld => ?_)
       clear hK K
       refine pure_ (i := 16) (N := some 54) (v := ?_) (a' := ?_) #[true, true, true, true, true, true, true, true, true, true, true, true, true, true, true, true, true, false] rfl rfl (any_of HT_.out (by kernel_rfl)) (fun _ _ _ h => h) (Or.inl ⟨by rfl, ?_⟩) ?_ ?_
       rotate_left
       ·intro w'
        go_simp
        with_reducible rfl
       rotate_left
       ·simp only [Act.put, List.setIfInBounds_toArray, List.set_cons_zero, List.set_cons_succ, i64_w, i32_w]
        rfl
       refine one_ (i := 17) (N := none) #[true, true, true, true, true, true, true, true, true, true, true, true, true, true, true, true, true, true] rfl rfl (one_of HT_.out (by kernel_rfl)) (by decide) (fun K hK => ?_)
       have hs63 : w59.cell? ⟨gb123, 3, none⟩ = some (.int .i64 x116003_1) := (blk_cell BK123.out 3).trans rfl
       have hfs63 := blk_frozen BK123.out 3
       have hns63_0 := NB115_123.out
       have hns63_1 := NB116_123.out
       have hms63_0 := NB123_115.out
       have hms63_1 := NB123_116.out
       have hs64 : w59.cell? ⟨gb123, 4, none⟩ = some (.int .i64 x116004_1) := (blk_cell BK123.out 4).trans rfl
       have hfs64 := blk_frozen BK123.out 4
       have hns64_0 := NB115_123.out
       have hns64_1 := NB116_123.out
       have hms64_0 := NB123_115.out
       have hms64_1 := NB123_116.out
       have hs65 : w59.cell? ⟨gb123, 5, none⟩ = some (.int .i64 x116005_1) := (blk_cell BK123.out 5).trans rfl
       have hfs65 := blk_frozen BK123.out 5
       have hns65_0 := NB115_123.out
       have hns65_1 := NB116_123.out
       have hms65_0 := NB123_115.out
       have hms65_1 := NB123_116.out
       refine skip_ (w1 := ?_) (by rfl) rfl ?_ ?_
       rotate_left
       ·go_simp
        rfl
       refine hK.out _ _ ⟨((cell_far (p := ⟨gb123, _, none⟩) NB115_123.out _).trans (((cell_far (p := ⟨gb123, _, none⟩) NB115_123.out _).trans (((cell_far (p := ⟨gb123, _, none⟩) NB115_123.out _).trans (hHeld.1)))))), ((cell_far (p := ⟨gb123, _, none⟩) NB115_123.out _).trans (((cell_far (p := ⟨gb123, _, none⟩) NB115_123.out _).trans (((cell_far (p := ⟨gb123, _, none⟩) NB115_123.out _).trans (hHeld.2.1)))))), ((cell_far (p := ⟨gb123, _, none⟩) NB115_123.out _).trans (((cell_far (p := ⟨gb123, _, none⟩) NB115_123.out _).trans (((cell_far (p := ⟨gb123, _, none⟩) NB115_123.out _).trans (hHeld.2.2.1)))))), ((cell_far (p := ⟨gb123, _, none⟩) NB115_123.out _).trans (((cell_far (p := ⟨gb123, _, none⟩) NB115_123.out _).trans (((cell_far (p := ⟨gb123, _, none⟩) NB115_123.out _).trans (hHeld.2.2.2.1)))))), ((cell_far (p := ⟨gb123, _, none⟩) NB115_123.out _).trans (((cell_far (p := ⟨gb123, _, none⟩) NB115_123.out _).trans (((cell_far (p := ⟨gb123, _, none⟩) NB115_123.out _).trans (hHeld.2.2.2.2.1)))))), ((cell_far (p := ⟨gb123, _, none⟩) NB115_123.out _).trans (((cell_far (p := ⟨gb123, _, none⟩) NB115_123.out _).trans (((cell_far (p := ⟨gb123, _, none⟩) NB115_123.out _).trans (hHeld.2.2.2.2.2))))))⟩ (fun hHeld => ?_)
       clear hK K
       refine done_ (done_of HT_.out (by kernel_rfl)) ?_
       have hcz66_0 : w59.cell? ⟨gb123, 0, none⟩ = some (.int .i64 x116000_1) := (blk_cell BK123.out 0).trans rfl
       have hcz66_1 : w59.cell? ⟨gb123, 1, none⟩ = some (.int .i64 x116001_1) := (blk_cell BK123.out 1).trans rfl
       have hcz66_2 : w59.cell? ⟨gb123, 2, none⟩ = some (.int .i64 x116002_1) := (blk_cell BK123.out 2).trans rfl
       have hcz66_3 : w59.cell? ⟨gb123, 3, none⟩ = some (.int .i64 x116003_1) := (blk_cell BK123.out 3).trans rfl
       have hcz66_4 : w59.cell? ⟨gb123, 4, none⟩ = some (.int .i64 x116004_1) := (blk_cell BK123.out 4).trans rfl
       have hcz66_5 : w59.cell? ⟨gb123, 5, none⟩ = some (.int .i64 x116005_1) := (blk_cell BK123.out 5).trans rfl
       have hfz66_0 := blk_frozen BK123.out 0
       have hfz66_1 := blk_frozen BK123.out 1
       have hfz66_2 := blk_frozen BK123.out 2
       have hfz66_3 := blk_frozen BK123.out 3
       have hfz66_4 := blk_frozen BK123.out 4
       have hfz66_5 := blk_frozen BK123.out 5
       try go_wp2_with (first | ((with_reducible refine gate_callee (f := 19) rfl ?_); refine goesL_ (some 57) rfl rfl Try.func19 (by kernel_rfl) rfl #[.agg #[.int .i64 t124, .int .i64 t125, .int .i64 t126, .int .i64 t127, .int .i64 t128, .int .i64 t129]] rfl (by (try simp only [List.map_toArray, List.map_cons, List.map_nil]); first | done | rfl) ?_; (with_reducible refine (R_Volume.calls t124 t125 t126 t127 t128 t129 t130 _ A23.out).mono ?_); rintro e w67 ⟨rfl, hb⟩; refine ⟨_, rfl, ?_⟩; have n0_ := Aside0.mk (Kd.R_below (by (with_reducible repeat (first | apply Kd.R_alloc | apply Kd.R_drewN | apply Kd.R_drew)); exact (Kd.R_mono (Kd.R_far (p := ⟨gb123, 5, none⟩) (Kd.R_far (p := ⟨gb123, 4, none⟩) (Kd.R_far (p := ⟨gb123, 3, none⟩) (Kd.R_far (p := ⟨gb123, 2, none⟩) (Kd.R_far (p := ⟨gb123, 1, none⟩) (Kd.R_far (p := ⟨gb123, 0, none⟩) (Kd.R_types HO_8.out BK123.out (by decide)) (fun _ hk => hk.2) (.int .i64 t124)) (fun _ hk => hk.2) (.int .i64 t125)) (fun _ hk => hk.2) (.int .i64 t126)) (fun _ hk => hk.2) (.int .i64 t127)) (fun _ hk => hk.2) (.int .i64 t128)) (fun _ hk => hk.2) (.int .i64 t129)) (fun _ h_ => h_.1))) hb); have n1_ := Aside0.mk (blk_below (g := gb115) (o := .cells #[.int .i64 x116000_1, .int .i64 x116001_1, .int .i64 x116002_1, .int .i64 x116003_1, .int .i64 x116004_1, .int .i64 x116005_1] 25 (0, 0)) (by (with_reducible repeat (first | refine blk_drewN ?_ _ | refine blk_drew ?_ | refine blk_alloc ?_ _ | refine blk_far ?_ NB115_123.out _)); exact BK115.out) hb); have n2_ := Aside0.mk (blk_below (g := gb116) (o := .cells #[.int .i64 a1_0, .int .i64 a1_1, .int .i64 a1_2, .int .i64 a1_3, .int .i64 a1_4, .int .i64 a1_5] 25 (0, 0)) (by (with_reducible repeat (first | refine blk_drewN ?_ _ | refine blk_drew ?_ | refine blk_alloc ?_ _ | refine blk_far ?_ NB116_123.out _)); exact BK116.out) hb); have n3_ := Aside0.mk (blk_below (g := gb123) (o := .cells #[.int .i64 t124, .int .i64 t125, .int .i64 t126, .int .i64 t127, .int .i64 t128, .int .i64 t129] 25 (0, 0)) (by (with_reducible repeat (first | refine blk_drewN ?_ _ | refine blk_drew ?_ | refine blk_alloc ?_ _)); refine blk_put (cs := #[.int .i64 t124, .int .i64 t125, .int .i64 t126, .int .i64 t127, .int .i64 t128, .int .i64 x116005_1]) ?_ 5 _ rfl; (with_reducible repeat (first | refine blk_drewN ?_ _ | refine blk_drew ?_ | refine blk_alloc ?_ _)); refine blk_put (cs := #[.int .i64 t124, .int .i64 t125, .int .i64 t126, .int .i64 t127, .int .i64 x116004_1, .int .i64 x116005_1]) ?_ 4 _ rfl; (with_reducible repeat (first | refine blk_drewN ?_ _ | refine blk_drew ?_ | refine blk_alloc ?_ _)); refine blk_put (cs := #[.int .i64 t124, .int .i64 t125, .int .i64 t126, .int .i64 x116003_1, .int .i64 x116004_1, .int .i64 x116005_1]) ?_ 3 _ rfl; (with_reducible repeat (first | refine blk_drewN ?_ _ | refine blk_drew ?_ | refine blk_alloc ?_ _)); refine blk_put (cs := #[.int .i64 t124, .int .i64 t125, .int .i64 x116002_1, .int .i64 x116003_1, .int .i64 x116004_1, .int .i64 x116005_1]) ?_ 2 _ rfl; (with_reducible repeat (first | refine blk_drewN ?_ _ | refine blk_drew ?_ | refine blk_alloc ?_ _)); refine blk_put (cs := #[.int .i64 t124, .int .i64 x116001_1, .int .i64 x116002_1, .int .i64 x116003_1, .int .i64 x116004_1, .int .i64 x116005_1]) ?_ 1 _ rfl; (with_reducible repeat (first | refine blk_drewN ?_ _ | refine blk_drew ?_ | refine blk_alloc ?_ _)); refine blk_put (cs := #[.int .i64 x116000_1, .int .i64 x116001_1, .int .i64 x116002_1, .int .i64 x116003_1, .int .i64 x116004_1, .int .i64 x116005_1]) ?_ 0 _ rfl; (with_reducible repeat (first | refine blk_drewN ?_ _ | refine blk_drew ?_ | refine blk_alloc ?_ _)); exact BK123.out) hb); have n4_ := Aside0.mk (below_step (by repeat (first | (with_reducible first | exact HB.out | apply below_alloc | apply pw_below_drewN | apply below_drew1 | refine below_set ?_ GE115.out | refine below_set ?_ GE116.out | refine below_set ?_ GE123.out) | exact HB.out)) hb); clear HO_8; clear BK115; clear BK116; clear BK123; clear HB; have HO_8 := n0_; have BK115 := n1_; have BK116 := n2_; have BK123 := n3_; have HB := n4_; clear n0_ n1_ n2_ n3_ n4_; (try clear hb); (try clear hb2); (try clear hk); (try clear hi); have hcz68_0 : w67.cell? ⟨gb115, 0, none⟩ = some (.int .i64 x116000_1) := (blk_cell BK115.out 0).trans rfl; have hcz68_1 : w67.cell? ⟨gb115, 1, none⟩ = some (.int .i64 x116001_1) := (blk_cell BK115.out 1).trans rfl; have hcz68_2 : w67.cell? ⟨gb115, 2, none⟩ = some (.int .i64 x116002_1) := (blk_cell BK115.out 2).trans rfl; have hcz68_3 : w67.cell? ⟨gb115, 3, none⟩ = some (.int .i64 x116003_1) := (blk_cell BK115.out 3).trans rfl; have hcz68_4 : w67.cell? ⟨gb115, 4, none⟩ = some (.int .i64 x116004_1) := (blk_cell BK115.out 4).trans rfl; have hcz68_5 : w67.cell? ⟨gb115, 5, none⟩ = some (.int .i64 x116005_1) := (blk_cell BK115.out 5).trans rfl; have hfz68_0 := blk_frozen BK115.out 0; have hfz68_1 := blk_frozen BK115.out 1; have hfz68_2 := blk_frozen BK115.out 2; have hfz68_3 := blk_frozen BK115.out 3; have hfz68_4 := blk_frozen BK115.out 4; have hfz68_5 := blk_frozen BK115.out 5) | ((with_reducible refine gate_callee (f := 49) rfl ?_); refine goesL_ (some 75) rfl rfl Try.func49 (by kernel_rfl) rfl #[.agg #[.int .i64 x116000_1, .int .i64 x116001_1, .int .i64 x116002_1], .int .i64 x10_1, .int .i64 t120] rfl (by (try simp only [List.map_toArray, List.map_cons, List.map_nil]); first | done | rfl) ?_; (with_reducible refine (R_Put.calls x116000_1 x116001_1 x116002_1 x10_1 t120 t137 t138 t139 _ A49.out).mono ?_); rintro e w69 ⟨rfl, hb⟩; refine ⟨_, rfl, ?_⟩; have n0_ := Aside0.mk (KT.rbL HO_8.out hb); have n1_ := Aside0.mk (KT.bL BK115.out hb); have n2_ := Aside0.mk (KT.bL BK116.out hb); have n3_ := Aside0.mk (KT.bL BK123.out hb); have n4_ := Aside0.mk (below_step (by repeat (first | (with_reducible first | exact HB.out | apply below_alloc | apply pw_below_drewN | apply below_drew1 | refine below_set ?_ GE115.out | refine below_set ?_ GE116.out | refine below_set ?_ GE123.out) | exact HB.out)) hb); clear HO_8; clear BK115; clear BK116; clear BK123; clear HB; have HO_8 := n0_; have BK115 := n1_; have BK116 := n2_; have BK123 := n3_; have HB := n4_; clear n0_ n1_ n2_ n3_ n4_; (try clear hb); (try clear hb2); (try clear hk); (try clear hi); have hcz70_0 : w69.cell? ⟨gb115, 0, none⟩ = some (.int .i64 x116000_1) := (blk_cell BK115.out 0).trans rfl; have hcz70_1 : w69.cell? ⟨gb115, 1, none⟩ = some (.int .i64 x116001_1) := (blk_cell BK115.out 1).trans rfl; have hcz70_2 : w69.cell? ⟨gb115, 2, none⟩ = some (.int .i64 x116002_1) := (blk_cell BK115.out 2).trans rfl; have hcz70_3 : w69.cell? ⟨gb115, 3, none⟩ = some (.int .i64 x116003_1) := (blk_cell BK115.out 3).trans rfl; have hcz70_4 : w69.cell? ⟨gb115, 4, none⟩ = some (.int .i64 x116004_1) := (blk_cell BK115.out 4).trans rfl; have hcz70_5 : w69.cell? ⟨gb115, 5, none⟩ = some (.int .i64 x116005_1) := (blk_cell BK115.out 5).trans rfl; have hfz70_0 := blk_frozen BK115.out 0; have hfz70_1 := blk_frozen BK115.out 1; have hfz70_2 := blk_frozen BK115.out 2; have hfz70_3 := blk_frozen BK115.out 3; have hfz70_4 := blk_frozen BK115.out 4; have hfz70_5 := blk_frozen BK115.out 5))
       go_meet
       case rel => exact ⟨_, (x8_1), (wrap64 (x9_1 + t130)), (t137), (t138), (t139), (by first | rfl | (simp; done) | (simp [*]; done)), H', ⟨by have := HK1.out; first | omega | exact Nat.le_refl _⟩, ⟨by (with_reducible repeat (first | apply Kd.R_alloc | apply Kd.R_drewN | apply Kd.R_drew)); exact Kd.R_mono (Kd.R_far (p := ⟨gb115, 2, none⟩) (Kd.R_far (p := ⟨gb115, 1, none⟩) (Kd.R_far (p := ⟨gb115, 0, none⟩) (Kd.R_types HO_8.out BK115.out (by decide)) (fun _ hk => hk.2) (.int .i64 t137)) (fun _ hk => hk.2) (.int .i64 t138)) (fun _ hk => hk.2) (.int .i64 t139)) (fun _ hk => trivial)⟩, ⟨by (with_reducible repeat (first | refine blk_drewN ?_ _ | refine blk_drew ?_ | refine blk_alloc ?_ _)); refine blk_put (cs := #[.int .i64 t137, .int .i64 t138, .int .i64 x116002_1, .int .i64 x116003_1, .int .i64 x116004_1, .int .i64 x116005_1]) ?_ 2 _ rfl; (with_reducible repeat (first | refine blk_drewN ?_ _ | refine blk_drew ?_ | refine blk_alloc ?_ _)); refine blk_put (cs := #[.int .i64 t137, .int .i64 x116001_1, .int .i64 x116002_1, .int .i64 x116003_1, .int .i64 x116004_1, .int .i64 x116005_1]) ?_ 1 _ rfl; (with_reducible repeat (first | refine blk_drewN ?_ _ | refine blk_drew ?_ | refine blk_alloc ?_ _)); refine blk_put (cs := #[.int .i64 x116000_1, .int .i64 x116001_1, .int .i64 x116002_1, .int .i64 x116003_1, .int .i64 x116004_1, .int .i64 x116005_1]) ?_ 0 _ rfl; (with_reducible repeat (first | refine blk_drewN ?_ _ | refine blk_drew ?_ | refine blk_alloc ?_ _)); exact BK115.out⟩, ⟨by (with_reducible repeat (first | refine blk_drewN ?_ _ | refine blk_drew ?_ | refine blk_alloc ?_ _ | refine blk_far ?_ NB116_115.out _)); exact BK116.out⟩, ⟨by repeat (first | (with_reducible first | exact HB.out | apply below_alloc | apply pw_below_drewN | apply below_drew1 | refine below_set ?_ GE115.out | refine below_set ?_ GE116.out | refine below_set ?_ GE123.out) | exact HB.out)⟩⟩
     ·rw [if_neg c19] at H
      have c19b0 : decide (0 < (wrap64 (t120 - t122))) = false := decide_eq_false c19
      clear c19
      (first | rw [c19b0] | (simp only [i64_w, i32_w]; rw [c19b0]) | skip)
      have H' := Aside0.mk H
      clear H
      go_wp2
      go_meet
      case rel => exact ⟨_, (x8_1), (x9_1), (x116000_1), (x116001_1), (x116002_1), (by first | rfl | (simp; done) | (simp [*]; done)), H', ⟨by have := HK1.out; first | omega | exact Nat.le_refl _⟩, ⟨KT.rL HO_8.out⟩, ⟨KT.kL BK115.out⟩, ⟨KT.kL BK116.out⟩, ⟨by repeat (first | (with_reducible first | exact HB.out | apply below_alloc | apply pw_below_drewN | apply below_drew1 | refine below_set ?_ GE115.out | refine below_set ?_ GE116.out) | exact HB.out)⟩⟩
    case rest =>
     clear HC12
     try clear c1
     try clear c2
     try clear p2
     try clear c3
     try clear c4
     try clear c5
     try clear p6
     try clear c19
     try clear c19b0
     try clear c24
     try clear c24b0
     try clear c25
     try clear c30
     try clear c31
     try clear c49
     try clear c50
     try clear c53
     try clear c54
     try clear p64
     try clear hcz28_5
     try clear hcz32_0
     try clear hcz32_1
     try clear hcz32_2
     try clear hcz32_3
     try clear hcz32_4
     try clear hcz32_5
     try clear hcz43_0
     try clear hcz43_1
     try clear hcz43_2
     try clear hcz43_3
     try clear hcz43_4
     try clear hcz43_5
     try clear hcz46_0
     try clear hcz46_1
     try clear hcz46_2
     try clear hcz46_3
     try clear hcz46_4
     try clear hcz46_5
     try clear hcz48_0
     try clear hcz48_1
     try clear hcz48_2
     try clear hcz48_3
     try clear hcz48_4
     try clear hcz48_5
     try clear hcz51_0
     try clear hcz51_1
     try clear hcz51_2
     try clear hcz51_3
     try clear hcz51_4
     try clear hcz51_5
     try clear hcz55_0
     try clear hcz55_1
     try clear hcz55_2
     try clear hcz55_3
     try clear hcz55_4
     try clear hcz55_5
     try clear hcz66_0
     try clear hcz66_1
     try clear hcz66_2
     try clear hcz66_3
     try clear hcz66_4
     try clear hcz66_5
     try clear hcz68_0
     try clear hcz68_1
     try clear hcz68_2
     try clear hcz68_3
     try clear hcz68_4
     try clear hcz68_5
     try clear hcz70_0
     try clear hcz70_1
     try clear hcz70_2
     try clear hcz70_3
     try clear hcz70_4
     try clear hcz70_5
     try clear hfz28_0
     try clear hfz28_1
     try clear hfz28_2
     try clear hfz28_3
     try clear hfz28_4
     try clear hfz28_5
     try clear hfz32_0
     try clear hfz32_1
     try clear hfz32_2
     try clear hfz32_3
     try clear hfz32_4
     try clear hfz32_5
     try clear hfz43_0
     try clear hfz43_1
     try clear hfz43_2
     try clear hfz43_3
     try clear hfz43_4
     try clear hfz43_5
     try clear hfz46_0
     try clear hfz46_1
     try clear hfz46_2
     try clear hfz46_3
     try clear hfz46_4
     try clear hfz46_5
     try clear hfz48_0
     try clear hfz48_1
     try clear hfz48_2
     try clear hfz48_3
     try clear hfz48_4
     try clear hfz48_5
     try clear hfz51_0
     try clear hfz51_1
     try clear hfz51_2
     try clear hfz51_3
     try clear hfz51_4
     try clear hfz51_5
     try clear hfz55_0
     try clear hfz55_1
     try clear hfz55_2
     try clear hfz55_3
     try clear hfz55_4
     try clear hfz55_5
     try clear hfz66_0
     try clear hfz66_1
     try clear hfz66_2
     try clear hfz66_3
     try clear hfz66_4
     try clear hfz66_5
     try clear hfz68_0
     try clear hfz68_1
     try clear hfz68_2
     try clear hfz68_3
     try clear hfz68_4
     try clear hfz68_5
     try clear hfz70_0
     try clear hfz70_1
     try clear hfz70_2
     try clear hfz70_3
     try clear hfz70_4
     try clear hfz70_5
     obtain ⟨kq, x8_11, x9_11, x116000_11, x116001_11, x116002_11, rfl, HA, HJ11, HO_8, BK115, BK116, HB⟩ := hcut
     cases kq with
     | zero => exact absurd HA.out (by simp [R_Trim.j1])
     | succ kj11 =>
      have H := HA.out
      clear HA
      simp only [R_Trim.j1] at H
      replace H := Option.bind_eq_some_iff.mp H
      obtain ⟨t140, A710, H⟩ := H
      replace H : (if (wrap64 (t140 - t121)) > 0 then ((R_Put.f x116000_11 x116001_11 x116002_11 x10_1 t121).bind fun bt142 => ((R_Put.f x116003_1 x116004_1 x116005_1 x10_1 (wrap64 (t121 + (mn (wrap64 (t140 - t121)) a2)))).bind fun bt145 => ((R_Volume.f bt142.1 bt142.2.1 bt142.2.2 bt145.1 bt145.2.1 bt145.2.2).bind fun t148 => (if (wrap64 (t140 - t121)) > a2 then (if x8_11.length < 5864062014805 then ((R_Put.f x116003_1 x116004_1 x116005_1 x10_1 t121).bind fun bt152 => (R_Trim.l0 kj11 a2 (x8_11 ++ [(⟨x10_1, t121, a2⟩ : S27)]) (wrap64 (x9_11 + t148)) (wrap64 (x10_1 + 1)) x116000_11 x116001_11 x116002_11 bt152.1 bt152.2.1 bt152.2.2 a1_0 a1_1 a1_2 a1_3 a1_4 a1_5)) else (none)) else ((R_Put.f x116003_1 x116004_1 x116005_1 x10_1 t121).bind fun bt155 => (R_Trim.l0 kj11 a2 x8_11 (wrap64 (x9_11 + t148)) (wrap64 (x10_1 + 1)) x116000_11 x116001_11 x116002_11 bt155.1 bt155.2.1 bt155.2.2 a1_0 a1_1 a1_2 a1_3 a1_4 a1_5)))))) else (R_Trim.l0 kj11 a2 x8_11 x9_11 (wrap64 (x10_1 + 1)) x116000_11 x116001_11 x116002_11 x116003_1 x116004_1 x116005_1 a1_0 a1_1 a1_2 a1_3 a1_4 a1_5)) = some (r1, r2) := H
      have A71 := Aside0.mk A710
      clear A710
      by_cases c72 : (wrap64 (t140 - t121)) > 0
      ·rw [if_pos c72] at H
       have c72b0 : decide (0 < (wrap64 (t140 - t121))) = true := decide_eq_true c72
       clear c72
       replace H := Option.bind_eq_some_iff.mp H
       obtain ⟨⟨t142, t143, t144⟩, A730, H⟩ := H
       replace H : ((R_Put.f x116003_1 x116004_1 x116005_1 x10_1 (wrap64 (t121 + (mn (wrap64 (t140 - t121)) a2)))).bind fun bt145 => ((R_Volume.f t142 t143 t144 bt145.1 bt145.2.1 bt145.2.2).bind fun t148 => (if (wrap64 (t140 - t121)) > a2 then (if x8_11.length < 5864062014805 then ((R_Put.f x116003_1 x116004_1 x116005_1 x10_1 t121).bind fun bt152 => (R_Trim.l0 kj11 a2 (x8_11 ++ [(⟨x10_1, t121, a2⟩ : S27)]) (wrap64 (x9_11 + t148)) (wrap64 (x10_1 + 1)) x116000_11 x116001_11 x116002_11 bt152.1 bt152.2.1 bt152.2.2 a1_0 a1_1 a1_2 a1_3 a1_4 a1_5)) else (none)) else ((R_Put.f x116003_1 x116004_1 x116005_1 x10_1 t121).bind fun bt155 => (R_Trim.l0 kj11 a2 x8_11 (wrap64 (x9_11 + t148)) (wrap64 (x10_1 + 1)) x116000_11 x116001_11 x116002_11 bt155.1 bt155.2.1 bt155.2.2 a1_0 a1_1 a1_2 a1_3 a1_4 a1_5))))) = some (r1, r2) := H
       have A73 := Aside0.mk A730
       clear A730
       obtain ⟨ji74, hji74⟩ : ∃ j_ : Int, (mn (wrap64 (t140 - t121)) a2) = j_ := ⟨_, rfl⟩
       replace H : ((R_Put.f x116003_1 x116004_1 x116005_1 x10_1 (wrap64 (t121 + (ji74)))).bind fun bt145 => ((R_Volume.f t142 t143 t144 bt145.1 bt145.2.1 bt145.2.2).bind fun t148 => (if (wrap64 (t140 - t121)) > a2 then (if x8_11.length < 5864062014805 then ((R_Put.f x116003_1 x116004_1 x116005_1 x10_1 t121).bind fun bt152 => (R_Trim.l0 kj11 a2 (x8_11 ++ [(⟨x10_1, t121, a2⟩ : S27)]) (wrap64 (x9_11 + t148)) (wrap64 (x10_1 + 1)) x116000_11 x116001_11 x116002_11 bt152.1 bt152.2.1 bt152.2.2 a1_0 a1_1 a1_2 a1_3 a1_4 a1_5)) else (none)) else ((R_Put.f x116003_1 x116004_1 x116005_1 x10_1 t121).bind fun bt155 => (R_Trim.l0 kj11 a2 x8_11 (wrap64 (x9_11 + t148)) (wrap64 (x10_1 + 1)) x116000_11 x116001_11 x116002_11 bt155.1 bt155.2.1 bt155.2.2 a1_0 a1_1 a1_2 a1_3 a1_4 a1_5))))) = some (r1, r2) := by first | (rw [hji74] at H; exact H) | (simp only [hji74] at H ⊢; exact H)
       (try rw [hji74] at A71)
       (try rw [hji74] at A73)
       have hji74_ : (if a2 < (wrap64 (t140 - t121)) then a2 else (wrap64 (t140 - t121))) = ji74 := hji74
       replace H := Option.bind_eq_some_iff.mp H
       obtain ⟨⟨t145, t146, t147⟩, A750, H⟩ := H
       replace H : ((R_Volume.f t142 t143 t144 t145 t146 t147).bind fun t148 => (if (wrap64 (t140 - t121)) > a2 then (if x8_11.length < 5864062014805 then ((R_Put.f x116003_1 x116004_1 x116005_1 x10_1 t121).bind fun bt152 => (R_Trim.l0 kj11 a2 (x8_11 ++ [(⟨x10_1, t121, a2⟩ : S27)]) (wrap64 (x9_11 + t148)) (wrap64 (x10_1 + 1)) x116000_11 x116001_11 x116002_11 bt152.1 bt152.2.1 bt152.2.2 a1_0 a1_1 a1_2 a1_3 a1_4 a1_5)) else (none)) else ((R_Put.f x116003_1 x116004_1 x116005_1 x10_1 t121).bind fun bt155 => (R_Trim.l0 kj11 a2 x8_11 (wrap64 (x9_11 + t148)) (wrap64 (x10_1 + 1)) x116000_11 x116001_11 x116002_11 bt155.1 bt155.2.1 bt155.2.2 a1_0 a1_1 a1_2 a1_3 a1_4 a1_5)))) = some (r1, r2) := H
       have A75 := Aside0.mk A750
       clear A750
       replace H := Option.bind_eq_some_iff.mp H
       obtain ⟨t148, A760, H⟩ := H
       replace H : (if (wrap64 (t140 - t121)) > a2 then (if x8_11.length < 5864062014805 then ((R_Put.f x116003_1 x116004_1 x116005_1 x10_1 t121).bind fun bt152 => (R_Trim.l0 kj11 a2 (x8_11 ++ [(⟨x10_1, t121, a2⟩ : S27)]) (wrap64 (x9_11 + t148)) (wrap64 (x10_1 + 1)) x116000_11 x116001_11 x116002_11 bt152.1 bt152.2.1 bt152.2.2 a1_0 a1_1 a1_2 a1_3 a1_4 a1_5)) else (none)) else ((R_Put.f x116003_1 x116004_1 x116005_1 x10_1 t121).bind fun bt155 => (R_Trim.l0 kj11 a2 x8_11 (wrap64 (x9_11 + t148)) (wrap64 (x10_1 + 1)) x116000_11 x116001_11 x116002_11 bt155.1 bt155.2.1 bt155.2.2 a1_0 a1_1 a1_2 a1_3 a1_4 a1_5))) = some (r1, r2) := H
       have A76 := Aside0.mk A760
       clear A760
       by_cases c77 : (wrap64 (t140 - t121)) > a2
       ·rw [if_pos c77] at H
        have c77b0 : decide (a2 < (wrap64 (t140 - t121))) = true := decide_eq_true c77
        clear c77
        by_cases c78 : x8_11.length < 5864062014805
        ·rw [if_pos c78] at H
         have LMc78 := Aside0.mk c78
         clear c78
         obtain ⟨y149, hy149⟩ : ∃ y_ : List (S27), y_ = (x8_11 ++ [(⟨x10_1, t121, a2⟩ : S27)]) := ⟨_, rfl⟩
         replace H : ((R_Put.f x116003_1 x116004_1 x116005_1 x10_1 t121).bind fun bt152 => (R_Trim.l0 kj11 a2 y149 (wrap64 (x9_11 + t148)) (wrap64 (x10_1 + 1)) x116000_11 x116001_11 x116002_11 bt152.1 bt152.2.1 bt152.2.2 a1_0 a1_1 a1_2 a1_3 a1_4 a1_5)) = some (r1, r2) := by first | (rw [hy149]; with_reducible exact H) | (have H2_ := (Option.bind_some _ _).symm.trans H; rw [hy149]; with_reducible exact H2_) | (have H2_ := (Option.bind_some _ _).symm.trans H; with_reducible exact H2_) | with_reducible exact H | (rw [hy149]; exact H) | exact H
         have Ny149 := Aside0.mk hy149
         clear hy149
         replace H := Option.bind_eq_some_iff.mp H
         obtain ⟨⟨t152, t153, t154⟩, A790, H⟩ := H
         replace H : (R_Trim.l0 kj11 a2 y149 (wrap64 (x9_11 + t148)) (wrap64 (x10_1 + 1)) x116000_11 x116001_11 x116002_11 t152 t153 t154 a1_0 a1_1 a1_2 a1_3 a1_4 a1_5) = some (r1, r2) := H
         have A79 := Aside0.mk A790
         clear A790
         have H' := Aside0.mk H
         clear H
         have hnb80 := NB115_116.out
         have hnc80 := NB116_115.out
         have hcz81_0 : wc.cell? ⟨gb115, 0, none⟩ = some (.int .i64 x116000_11) := (blk_cell BK115.out 0).trans rfl
         have hcz81_1 : wc.cell? ⟨gb115, 1, none⟩ = some (.int .i64 x116001_11) := (blk_cell BK115.out 1).trans rfl
         have hcz81_2 : wc.cell? ⟨gb115, 2, none⟩ = some (.int .i64 x116002_11) := (blk_cell BK115.out 2).trans rfl
         have hcz81_3 : wc.cell? ⟨gb115, 3, none⟩ = some (.int .i64 x116003_1) := (blk_cell BK115.out 3).trans rfl
         have hcz81_4 : wc.cell? ⟨gb115, 4, none⟩ = some (.int .i64 x116004_1) := (blk_cell BK115.out 4).trans rfl
         have hcz81_5 : wc.cell? ⟨gb115, 5, none⟩ = some (.int .i64 x116005_1) := (blk_cell BK115.out 5).trans rfl
         have hfz81_0 := blk_frozen BK115.out 0
         have hfz81_1 := blk_frozen BK115.out 1
         have hfz81_2 := blk_frozen BK115.out 2
         have hfz81_3 := blk_frozen BK115.out 3
         have hfz81_4 := blk_frozen BK115.out 4
         have hfz81_5 := blk_frozen BK115.out 5
         try go_wp2_with (first | ((with_reducible refine gate_callee (f := 41) rfl ?_); refine goesL_ (some 80) rfl rfl Try.func41 (by kernel_rfl) rfl #[.agg #[.int .i64 x116003_1, .int .i64 x116004_1, .int .i64 x116005_1], .int .i64 x10_1] rfl (by (try simp only [List.map_toArray, List.map_cons, List.map_nil]); first | done | rfl) ?_; (with_reducible refine (R_Get.calls x116003_1 x116004_1 x116005_1 x10_1 t140 _ A71.out).mono ?_); rintro e w82 ⟨rfl, hb⟩; refine ⟨_, rfl, ?_⟩; have n0_ := Aside0.mk (KT.rbL HO_8.out hb); have n1_ := Aside0.mk (KT.bL BK115.out hb); have n2_ := Aside0.mk (KT.bL BK116.out hb); have n3_ := Aside0.mk (below_step (by repeat (first | (with_reducible first | exact HB.out | apply below_alloc | apply pw_below_drewN | apply below_drew1 | refine below_set ?_ GE115.out | refine below_set ?_ GE116.out) | exact HB.out)) hb); clear HO_8; clear BK115; clear BK116; clear HB; have HO_8 := n0_; have BK115 := n1_; have BK116 := n2_; have HB := n3_; clear n0_ n1_ n2_ n3_; (try clear hb); (try clear hb2); (try clear hk); (try clear hi); have hcz83_0 : w82.cell? ⟨gb115, 0, none⟩ = some (.int .i64 x116000_11) := (blk_cell BK115.out 0).trans rfl; have hcz83_1 : w82.cell? ⟨gb115, 1, none⟩ = some (.int .i64 x116001_11) := (blk_cell BK115.out 1).trans rfl; have hcz83_2 : w82.cell? ⟨gb115, 2, none⟩ = some (.int .i64 x116002_11) := (blk_cell BK115.out 2).trans rfl; have hcz83_3 : w82.cell? ⟨gb115, 3, none⟩ = some (.int .i64 x116003_1) := (blk_cell BK115.out 3).trans rfl; have hcz83_4 : w82.cell? ⟨gb115, 4, none⟩ = some (.int .i64 x116004_1) := (blk_cell BK115.out 4).trans rfl; have hcz83_5 : w82.cell? ⟨gb115, 5, none⟩ = some (.int .i64 x116005_1) := (blk_cell BK115.out 5).trans rfl; have hfz83_0 := blk_frozen BK115.out 0; have hfz83_1 := blk_frozen BK115.out 1; have hfz83_2 := blk_frozen BK115.out 2; have hfz83_3 := blk_frozen BK115.out 3; have hfz83_4 := blk_frozen BK115.out 4; have hfz83_5 := blk_frozen BK115.out 5) | ((with_reducible refine gate_dst (N := 16) rfl ?_); refine box_event ?hg (N := 16) ?hd (cs := #[.int .i64 0, .int .i64 0, .int .i64 0, .int .i64 0, .int .i64 0, .int .i64 0]) (t := 25) ?hr ?_; (case hd => rfl); (case hg => rfl); (case hr => first | (go_simp; done) | (go_simp; rfl)); intro gb141 hg w84 hbox hb; have n0_ := Aside0.mk (KT.rbL HO_8.out hb); have n1_ := Aside0.mk (KT.bL BK115.out hb); have n2_ := Aside0.mk (KT.bL BK116.out hb); have n3_ := Aside0.mk (below_step (by repeat (first | (with_reducible first | exact HB.out | apply below_alloc | apply pw_below_drewN | apply below_drew1 | refine below_set ?_ GE115.out | refine below_set ?_ GE116.out) | exact HB.out)) hb); have n4_ := Aside0.mk (hbox); have n5_ := Aside0.mk ((by rw [hg]; exact (below_size (by repeat (first | (with_reducible first | exact HB.out | apply below_alloc | apply pw_below_drewN | apply below_drew1 | refine below_set ?_ GE115.out | refine below_set ?_ GE116.out) | exact HB.out))) : w.heap.size ≤ gb141)); have n6_ := Aside0.mk ((by rw [hg]; exact (below_size (by repeat (first | (with_reducible first | exact HB.out | apply below_alloc | apply pw_below_drewN | apply below_drew1 | refine below_set ?_ GE115.out | refine below_set ?_ GE116.out) | exact HB.out))) : w.heap.size ≤ gb141)); have n7_ := Aside0.mk ((by rw [hg]; exact Nat.ne_of_lt (KT.lL BK115.out) : gb115 ≠ gb141)); have n8_ := Aside0.mk ((by rw [hg]; exact Nat.ne_of_gt (KT.lL BK115.out) : gb141 ≠ gb115)); have n9_ := Aside0.mk ((by rw [hg]; exact Nat.ne_of_lt (KT.lL BK116.out) : gb116 ≠ gb141)); have n10_ := Aside0.mk ((by rw [hg]; exact Nat.ne_of_gt (KT.lL BK116.out) : gb141 ≠ gb116)); clear HO_8; clear BK115; clear BK116; clear HB; have HO_8 := n0_; have BK115 := n1_; have BK116 := n2_; have HB := n3_; have BK141 := n4_; have GW141 := n5_; have GE141 := n6_; have NB115_141 := n7_; have NB141_115 := n8_; have NB116_141 := n9_; have NB141_116 := n10_; clear n0_ n1_ n2_ n3_ n4_ n5_ n6_ n7_ n8_ n9_ n10_; clear hb hbox hg; have hnb85 := NB141_115.out; have hnc85 := NB115_141.out; have hnb86 := NB141_116.out; have hnc86 := NB116_141.out; have hcz87_0 : w84.cell? ⟨gb141, 0, none⟩ = some (.int .i64 0) := (blk_cell BK141.out 0).trans rfl; have hcz87_1 : w84.cell? ⟨gb141, 1, none⟩ = some (.int .i64 0) := (blk_cell BK141.out 1).trans rfl; have hcz87_2 : w84.cell? ⟨gb141, 2, none⟩ = some (.int .i64 0) := (blk_cell BK141.out 2).trans rfl; have hcz87_3 : w84.cell? ⟨gb141, 3, none⟩ = some (.int .i64 0) := (blk_cell BK141.out 3).trans rfl; have hcz87_4 : w84.cell? ⟨gb141, 4, none⟩ = some (.int .i64 0) := (blk_cell BK141.out 4).trans rfl; have hcz87_5 : w84.cell? ⟨gb141, 5, none⟩ = some (.int .i64 0) := (blk_cell BK141.out 5).trans rfl; have hfz87_0 := blk_frozen BK141.out 0; have hfz87_1 := blk_frozen BK141.out 1; have hfz87_2 := blk_frozen BK141.out 2; have hfz87_3 := blk_frozen BK141.out 3; have hfz87_4 := blk_frozen BK141.out 4; have hfz87_5 := blk_frozen BK141.out 5))
         have n0_ : Aside0 (Kd.R k27 27 ((((((w84.setCell ⟨gb141, 0, none⟩ (.int .i64 x116000_11)).setCell ⟨gb141, 1, none⟩ (.int .i64 x116001_11)).setCell ⟨gb141, 2, none⟩ (.int .i64 x116002_11)).setCell ⟨gb141, 3, none⟩ (.int .i64 x116003_1)).setCell ⟨gb141, 4, none⟩ (.int .i64 x116004_1)).setCell ⟨gb141, 5, none⟩ (.int .i64 x116005_1)) w.heap.size (fun _ => True) u8 x8_11) := ⟨by (with_reducible repeat (first | apply Kd.R_alloc | apply Kd.R_drewN | apply Kd.R_drew)); exact Kd.R_mono (Kd.R_far (p := ⟨gb141, 5, none⟩) (Kd.R_far (p := ⟨gb141, 4, none⟩) (Kd.R_far (p := ⟨gb141, 3, none⟩) (Kd.R_far (p := ⟨gb141, 2, none⟩) (Kd.R_far (p := ⟨gb141, 1, none⟩) (Kd.R_far (p := ⟨gb141, 0, none⟩) (Kd.R_types HO_8.out BK141.out (by decide)) (fun _ hk => hk.2) (.int .i64 x116000_11)) (fun _ hk => hk.2) (.int .i64 x116001_11)) (fun _ hk => hk.2) (.int .i64 x116002_11)) (fun _ hk => hk.2) (.int .i64 x116003_1)) (fun _ hk => hk.2) (.int .i64 x116004_1)) (fun _ hk => hk.2) (.int .i64 x116005_1)) (fun _ hk => trivial)⟩
         have n1_ : Aside0 (((((((w84.setCell ⟨gb141, 0, none⟩ (.int .i64 x116000_11)).setCell ⟨gb141, 1, none⟩ (.int .i64 x116001_11)).setCell ⟨gb141, 2, none⟩ (.int .i64 x116002_11)).setCell ⟨gb141, 3, none⟩ (.int .i64 x116003_1)).setCell ⟨gb141, 4, none⟩ (.int .i64 x116004_1)).setCell ⟨gb141, 5, none⟩ (.int .i64 x116005_1)).heap[gb115]? = some (.cells #[.int .i64 x116000_11, .int .i64 x116001_11, .int .i64 x116002_11, .int .i64 x116003_1, .int .i64 x116004_1, .int .i64 x116005_1] 25 (0, 0))) := ⟨by (with_reducible repeat (first | refine blk_drewN ?_ _ | refine blk_drew ?_ | refine blk_alloc ?_ _ | refine blk_far ?_ NB115_141.out _)); exact BK115.out⟩
         have n2_ : Aside0 (((((((w84.setCell ⟨gb141, 0, none⟩ (.int .i64 x116000_11)).setCell ⟨gb141, 1, none⟩ (.int .i64 x116001_11)).setCell ⟨gb141, 2, none⟩ (.int .i64 x116002_11)).setCell ⟨gb141, 3, none⟩ (.int .i64 x116003_1)).setCell ⟨gb141, 4, none⟩ (.int .i64 x116004_1)).setCell ⟨gb141, 5, none⟩ (.int .i64 x116005_1)).heap[gb116]? = some (.cells #[.int .i64 a1_0, .int .i64 a1_1, .int .i64 a1_2, .int .i64 a1_3, .int .i64 a1_4, .int .i64 a1_5] 25 (0, 0))) := ⟨by (with_reducible repeat (first | refine blk_drewN ?_ _ | refine blk_drew ?_ | refine blk_alloc ?_ _ | refine blk_far ?_ NB116_141.out _)); exact BK116.out⟩
         have n3_ : Aside0 (((((((w84.setCell ⟨gb141, 0, none⟩ (.int .i64 x116000_11)).setCell ⟨gb141, 1, none⟩ (.int .i64 x116001_11)).setCell ⟨gb141, 2, none⟩ (.int .i64 x116002_11)).setCell ⟨gb141, 3, none⟩ (.int .i64 x116003_1)).setCell ⟨gb141, 4, none⟩ (.int .i64 x116004_1)).setCell ⟨gb141, 5, none⟩ (.int .i64 x116005_1)).heap[gb141]? = some (.cells #[.int .i64 x116000_11, .int .i64 x116001_11, .int .i64 x116002_11, .int .i64 x116003_1, .int .i64 x116004_1, .int .i64 x116005_1] 25 (0, 0))) := ⟨by (with_reducible repeat (first | refine blk_drewN ?_ _ | refine blk_drew ?_ | refine blk_alloc ?_ _)); refine blk_put (cs := #[.int .i64 x116000_11, .int .i64 x116001_11, .int .i64 x116002_11, .int .i64 x116003_1, .int .i64 x116004_1, .int .i64 0]) ?_ 5 _ rfl; (with_reducible repeat (first | refine blk_drewN ?_ _ | refine blk_drew ?_ | refine blk_alloc ?_ _)); refine blk_put (cs := #[.int .i64 x116000_11, .int .i64 x116001_11, .int .i64 x116002_11, .int .i64 x116003_1, .int .i64 0, .int .i64 0]) ?_ 4 _ rfl; (with_reducible repeat (first | refine blk_drewN ?_ _ | refine blk_drew ?_ | refine blk_alloc ?_ _)); refine blk_put (cs := #[.int .i64 x116000_11, .int .i64 x116001_11, .int .i64 x116002_11, .int .i64 0, .int .i64 0, .int .i64 0]) ?_ 3 _ rfl; (with_reducible repeat (first | refine blk_drewN ?_ _ | refine blk_drew ?_ | refine blk_alloc ?_ _)); refine blk_put (cs := #[.int .i64 x116000_11, .int .i64 x116001_11, .int .i64 0, .int .i64 0, .int .i64 0, .int .i64 0]) ?_ 2 _ rfl; (with_reducible repeat (first | refine blk_drewN ?_ _ | refine blk_drew ?_ | refine blk_alloc ?_ _)); refine blk_put (cs := #[.int .i64 x116000_11, .int .i64 0, .int .i64 0, .int .i64 0, .int .i64 0, .int .i64 0]) ?_ 1 _ rfl; (with_reducible repeat (first | refine blk_drewN ?_ _ | refine blk_drew ?_ | refine blk_alloc ?_ _)); refine blk_put (cs := #[.int .i64 0, .int .i64 0, .int .i64 0, .int .i64 0, .int .i64 0, .int .i64 0]) ?_ 0 _ rfl; (with_reducible repeat (first | refine blk_drewN ?_ _ | refine blk_drew ?_ | refine blk_alloc ?_ _)); exact BK141.out⟩
         have n4_ : Aside0 (Below w.heap.size w ((((((w84.setCell ⟨gb141, 0, none⟩ (.int .i64 x116000_11)).setCell ⟨gb141, 1, none⟩ (.int .i64 x116001_11)).setCell ⟨gb141, 2, none⟩ (.int .i64 x116002_11)).setCell ⟨gb141, 3, none⟩ (.int .i64 x116003_1)).setCell ⟨gb141, 4, none⟩ (.int .i64 x116004_1)).setCell ⟨gb141, 5, none⟩ (.int .i64 x116005_1))) := ⟨by repeat (first | (with_reducible first | exact HB.out | apply below_alloc | apply pw_below_drewN | apply below_drew1 | refine below_set ?_ GE115.out | refine below_set ?_ GE116.out | refine below_set ?_ GE141.out) | exact HB.out)⟩
         (try clear HO_8)
         (try clear BK115)
         (try clear BK116)
         (try clear BK141)
         (try clear HB)
         generalize ((((((w84.setCell ⟨gb141, 0, none⟩ (.int .i64 x116000_11)).setCell ⟨gb141, 1, none⟩ (.int .i64 x116001_11)).setCell ⟨gb141, 2, none⟩ (.int .i64 x116002_11)).setCell ⟨gb141, 3, none⟩ (.int .i64 x116003_1)).setCell ⟨gb141, 4, none⟩ (.int .i64 x116004_1)).setCell ⟨gb141, 5, none⟩ (.int .i64 x116005_1)) = w88 at n0_ n1_ n2_ n3_ n4_ ⊢
         have HO_8 := n0_
         have BK115 := n1_
         have BK116 := n2_
         have BK141 := n3_
         have HB := n4_
         clear n0_ n1_ n2_ n3_ n4_
         have n0_ := Aside0.mk (Kd.R_drew HO_8.out)
         have n1_ := Aside0.mk (blk_drew BK115.out)
         have n2_ := Aside0.mk (blk_drew BK116.out)
         have n3_ := Aside0.mk (blk_drew BK141.out)
         have n4_ := Aside0.mk (below_drew1 HB.out)
         clear HO_8
         clear BK115
         clear BK116
         clear BK141
         clear HB
         have HO_8 := n0_
         have BK115 := n1_
         have BK116 := n2_
         have BK141 := n3_
         have HB := n4_
         clear n0_ n1_ n2_ n3_ n4_
         refine start_ (n := 18) (S := fun w' => w'.cell? ⟨gb115, 0, none⟩ = some (.int .i64 x116000_11) ∧ w'.cell? ⟨gb115, 1, none⟩ = some (.int .i64 x116001_11) ∧ w'.cell? ⟨gb115, 2, none⟩ = some (.int .i64 x116002_11) ∧ w'.cell? ⟨gb115, 3, none⟩ = some (.int .i64 x116003_1) ∧ w'.cell? ⟨gb115, 4, none⟩ = some (.int .i64 x116004_1) ∧ w'.cell? ⟨gb115, 5, none⟩ = some (.int .i64 x116005_1)) (ds := []) #[false, false, false, false, false, false, false, false, false, false, false, false, false, false, false, false, false, false] (by kernel_rfl) rfl rfl ⟨(blk_cell BK115.out 0).trans rfl, (blk_cell BK115.out 1).trans rfl, (blk_cell BK115.out 2).trans rfl, (blk_cell BK115.out 3).trans rfl, (blk_cell BK115.out 4).trans rfl, (blk_cell BK115.out 5).trans rfl⟩ (fun hHeld => ?_); refine with_tabW R_Trim.tab18 R_Trim.bits18 (fun HT_ HW_ => ?_)
         generalize w88.drew = w89 at HO_8 BK115 BK116 BK141 HB hHeld ⊢
         refine pure_ (i := 0) (N := some 86) (v := ?_) (a' := ?_) #[true, false, false, false, false, false, false, false, false, false, false, false, false, false, false, false, false, false] rfl rfl (any_of HT_.out (by kernel_rfl)) (fun _ _ _ h => h) (Or.inl ⟨by rfl, ?_⟩) ?_ ?_
         rotate_left
         ·intro w'
          go_simp
          with_reducible rfl
         rotate_left
         ·simp only [Act.put, List.setIfInBounds_toArray, List.set_cons_zero, List.set_cons_succ, i64_w, i32_w]
          rfl
         refine pure_ (i := 2) (N := some 88) (v := ?_) (a' := ?_) #[true, false, true, false, false, false, false, false, false, false, false, false, false, false, false, false, false, false] rfl rfl (any_of HT_.out (by kernel_rfl)) (fun _ _ _ h => h) (Or.inl ⟨by rfl, ?_⟩) ?_ ?_
         rotate_left
         ·intro w'
          go_simp
          with_reducible rfl
         rotate_left
         ·simp only [Act.put, List.setIfInBounds_toArray, List.set_cons_zero, List.set_cons_succ, i64_w, i32_w]
          rfl
         refine pure_ (i := 3) (N := some 89) (v := ?_) (a' := ?_) #[true, false, true, true, false, false, false, false, false, false, false, false, false, false, false, false, false, false] rfl rfl (any_of HT_.out (by kernel_rfl)) (fun _ _ _ h => h) (Or.inl ⟨by rfl, ?_⟩) ?_ ?_
         rotate_left
         ·intro w'
          go_simp
          with_reducible rfl
         rotate_left
         ·simp only [Act.put, List.setIfInBounds_toArray, List.set_cons_zero, List.set_cons_succ, i64_w, i32_w]
          rfl
         refine pure_ (i := 5) (N := some 91) (v := ?_) (a' := ?_) #[true, false, true, true, false, true, false, false, false, false, false, false, false, false, false, false, false, false] rfl rfl (any_of HT_.out (by kernel_rfl)) (fun _ _ _ h => h) (Or.inl ⟨by rfl, ?_⟩) ?_ ?_
         rotate_left
         ·intro w'
          go_simp
          with_reducible rfl
         rotate_left
         ·simp only [Act.put, List.setIfInBounds_toArray, List.set_cons_zero, List.set_cons_succ, i64_w, i32_w]
          rfl
         refine pure_ (i := 7) (N := some 93) (v := ?_) (a' := ?_) #[true, false, true, true, false, true, false, true, false, false, false, false, false, false, false, false, false, false] rfl rfl (any_of HT_.out (by kernel_rfl)) (fun _ _ _ h => h) (Or.inl ⟨by rfl, ?_⟩) ?_ ?_
         rotate_left
         ·intro w'
          go_simp
          with_reducible rfl
         rotate_left
         ·simp only [Act.put, List.setIfInBounds_toArray, List.set_cons_zero, List.set_cons_succ, i64_w, i32_w]
          rfl
         refine pure_ (i := 8) (N := some 94) (v := ?_) (a' := ?_) #[true, false, true, true, false, true, false, true, true, false, false, false, false, false, false, false, false, false] rfl rfl (any_of HT_.out (by kernel_rfl)) (fun _ _ _ h => h) (Or.inl ⟨by rfl, ?_⟩) ?_ ?_
         rotate_left
         ·intro w'
          go_simp
          with_reducible rfl
         rotate_left
         ·simp only [Act.put, List.setIfInBounds_toArray, List.set_cons_zero, List.set_cons_succ, i64_w, i32_w]
          rfl
         refine pure_ (i := 9) (N := some 95) (v := ?_) (a' := ?_) #[true, false, true, true, false, true, false, true, true, true, false, false, false, false, false, false, false, false] rfl rfl (any_of HT_.out (by kernel_rfl)) (fun _ _ _ h => h) (Or.inl ⟨by rfl, ?_⟩) ?_ ?_
         rotate_left
         ·intro w'
          go_simp
          with_reducible rfl
         rotate_left
         ·simp only [Act.put, List.setIfInBounds_toArray, List.set_cons_zero, List.set_cons_succ, i64_w, i32_w]
          rfl
         refine pure_ (i := 10) (N := some 96) (v := ?_) (a' := ?_) #[true, false, true, true, false, true, false, true, true, true, true, false, false, false, false, false, false, false] rfl rfl (any_of HT_.out (by kernel_rfl)) (fun _ _ _ h => h) (Or.inl ⟨by rfl, ?_⟩) ?_ ?_
         rotate_left
         ·intro w'
          go_simp
          with_reducible rfl
         rotate_left
         ·simp only [Act.put, List.setIfInBounds_toArray, List.set_cons_zero, List.set_cons_succ, i64_w, i32_w]
          rfl
         refine pure_ (i := 11) (N := some 97) (v := ?_) (a' := ?_) #[true, false, true, true, false, true, false, true, true, true, true, true, false, false, false, false, false, false] rfl rfl (any_of HT_.out (by kernel_rfl)) (fun _ _ _ h => h) (Or.inl ⟨by rfl, ?_⟩) ?_ ?_
         rotate_left
         ·intro w'
          go_simp
          with_reducible rfl
         rotate_left
         ·simp only [Act.put, List.setIfInBounds_toArray, List.set_cons_zero, List.set_cons_succ, i64_w, i32_w]
          rfl
         refine pure_ (i := 12) (N := some 98) (v := ?_) (a' := ?_) #[true, false, true, true, false, true, false, true, true, true, true, true, true, false, false, false, false, false] rfl rfl (any_of HT_.out (by kernel_rfl)) (fun _ _ _ h => h) (Or.inl ⟨by rfl, ?_⟩) ?_ ?_
         rotate_left
         ·intro w'
          go_simp
          with_reducible rfl
         rotate_left
         ·simp only [Act.put, List.setIfInBounds_toArray, List.set_cons_zero, List.set_cons_succ, i64_w, i32_w]
          rfl
         refine take_ (i := 1) (N := some 87) (v := ?_) (a' := ?_) #[true, true, true, true, false, true, false, true, true, true, true, true, true, false, false, false, false, false] rfl rfl (take_ofW HT_.out HW_.out (by kernel_rfl)) (fun _ _ _ h => h) (Or.inl ⟨by rfl, ?_⟩) hHeld ?_ ?_
         rotate_left
         ·rintro w' ⟨s0, s1, s2, s3, s4, s5⟩
          go_simp
          with_reducible rfl
         rotate_left
         ·simp only [Act.put, List.setIfInBounds_toArray, List.set_cons_zero, List.set_cons_succ, i64_w, i32_w]
          rfl
         refine take_ (i := 6) (N := some 92) (v := ?_) (a' := ?_) #[true, true, true, true, false, true, true, true, true, true, true, true, true, false, false, false, false, false] rfl rfl (take_ofW HT_.out HW_.out (by kernel_rfl)) (fun _ _ _ h => h) (Or.inl ⟨by rfl, ?_⟩) hHeld ?_ ?_
         rotate_left
         ·rintro w' ⟨s0, s1, s2, s3, s4, s5⟩
          go_simp
          with_reducible rfl
         rotate_left
         ·simp only [Act.put, List.setIfInBounds_toArray, List.set_cons_zero, List.set_cons_succ, i64_w, i32_w]
          rfl
         refine one_ (i := 4) (N := some 90) #[true, true, true, true, true, true, true, true, true, true, true, true, true, false, false, false, false, false] rfl rfl (one_of HT_.out (by kernel_rfl)) (by decide) (fun K hK => ?_)
         refine goes_ Try.func49 (by kernel_rfl) rfl #[.agg #[.int .i64 x116000_11, .int .i64 x116001_11, .int .i64 x116002_11], .int .i64 x10_1, .int .i64 t121] (by rfl) rfl rfl (by (try simp only [List.map_toArray, List.map_cons, List.map_nil]); first | done | rfl) ?_
         with_reducible refine (R_Put.calls x116000_11 x116001_11 x116002_11 x10_1 t121 t142 t143 t144 _ A73.out).mono ?_
         rintro e w90 ⟨rfl, hb⟩
         refine ⟨_, rfl, ?_⟩
         have n0_ := Aside0.mk (KT.rbL HO_8.out hb)
         have n1_ := Aside0.mk (KT.bL BK115.out hb)
         have n2_ := Aside0.mk (KT.bL BK116.out hb)
         have n3_ := Aside0.mk (KT.bL BK141.out hb)
         have n4_ := Aside0.mk (below_step (by repeat (first | (with_reducible first | exact HB.out | apply below_alloc | apply pw_below_drewN | apply below_drew1 | refine below_set ?_ GE115.out | refine below_set ?_ GE116.out | refine below_set ?_ GE141.out) | exact HB.out)) hb)
         clear HO_8
         clear BK115
         clear BK116
         clear BK141
         clear HB
         have HO_8 := n0_
         have BK115 := n1_
         have BK116 := n2_
         have BK141 := n3_
         have HB := n4_
         clear n0_ n1_ n2_ n3_ n4_
         (try clear hb)
         (try clear hb2)
         (try clear hk)
         (try clear hi)
         refine hK.out _ _ ⟨(blk_cell BK115.out 0).trans rfl, (blk_cell BK115.out 1).trans rfl, (blk_cell BK115.out 2).trans rfl, (blk_cell BK115.out 3).trans rfl, (blk_cell BK115.out 4).trans rfl, (blk_cell BK115.out 5).trans rfl⟩ (fun hHeld => ?_)
         clear hK K
         refine norm_ (a' := ?_) ?_ ?_
         rotate_left
         ·show Act.put _ (some 90) _ = _
          simp only [Act.put, List.setIfInBounds_toArray, List.set_cons_zero, List.set_cons_succ, i64_w, i32_w]
          rfl
         refine pure_ (i := 14) (N := some 100) (v := ?_) (a' := ?_) #[true, true, true, true, true, true, true, true, true, true, true, true, true, false, true, false, false, false] rfl rfl (any_of HT_.out (by kernel_rfl)) (fun _ _ _ h => h) (Or.inl ⟨by rfl, ?_⟩) ?_ ?_
         rotate_left
         ·intro w'
          go_simp
          with_reducible rfl
         rotate_left
         ·simp only [Act.put, List.setIfInBounds_toArray, List.set_cons_zero, List.set_cons_succ, i64_w, i32_w]
          rfl
         refine one_ (i := 13) (N := some 99) #[true, true, true, true, true, true, true, true, true, true, true, true, true, true, true, false, false, false] rfl rfl (one_of HT_.out (by kernel_rfl)) (by decide) (fun K hK => ?_)
         refine goes_ Try.func49 (by kernel_rfl) rfl #[.agg #[.int .i64 x116003_1, .int .i64 x116004_1, .int .i64 x116005_1], .int .i64 x10_1, .int .i64 (wrap64 (t121 + (ji74)))] (by rfl) rfl rfl (by (try simp only [List.map_toArray, List.map_cons, List.map_nil]); first | done | (simp only [hji74]; rfl) | rfl | (simp only [List.length_drop, List.length_take]; rfl)) ?_
         with_reducible refine (R_Put.calls x116003_1 x116004_1 x116005_1 x10_1 (wrap64 (t121 + (ji74))) t145 t146 t147 _ A75.out).mono ?_
         rintro e w91 ⟨rfl, hb⟩
         refine ⟨_, rfl, ?_⟩
         have n0_ := Aside0.mk (KT.rbL HO_8.out hb)
         have n1_ := Aside0.mk (KT.bL BK115.out hb)
         have n2_ := Aside0.mk (KT.bL BK116.out hb)
         have n3_ := Aside0.mk (KT.bL BK141.out hb)
         have n4_ := Aside0.mk (below_step (by repeat (first | (with_reducible first | exact HB.out | apply below_alloc | apply pw_below_drewN | apply below_drew1 | refine below_set ?_ GE115.out | refine below_set ?_ GE116.out | refine below_set ?_ GE141.out) | exact HB.out)) hb)
         clear HO_8
         clear BK115
         clear BK116
         clear BK141
         clear HB
         have HO_8 := n0_
         have BK115 := n1_
         have BK116 := n2_
         have BK141 := n3_
         have HB := n4_
         clear n0_ n1_ n2_ n3_ n4_
         (try clear hb)
         (try clear hb2)
         (try clear hk)
         (try clear hi)
         refine hK.out _ _ ⟨(blk_cell BK115.out 0).trans rfl, (blk_cell BK115.out 1).trans rfl, (blk_cell BK115.out 2).trans rfl, (blk_cell BK115.out 3).trans rfl, (blk_cell BK115.out 4).trans rfl, (blk_cell BK115.out 5).trans rfl⟩ (fun hHeld => ?_)
         clear hK K
         refine norm_ (a' := ?_) ?_ ?_
         rotate_left
         ·show Act.put _ (some 99) _ = _
          simp only [Act.put, List.setIfInBounds_toArray, List.set_cons_zero, List.set_cons_succ, i64_w, i32_w]
          rfl
         refine one_ (i := 15) (N := none) #[true, true, true, true, true, true, true, true, true, true, true, true, true, true, true, true, false, false] rfl rfl (one_of HT_.out (by kernel_rfl)) (by decide) (fun K hK => ?_)
         have hs92 : w91.cell? ⟨gb141, 0, none⟩ = some (.int .i64 x116000_11) := (blk_cell BK141.out 0).trans rfl
         have hfs92 := blk_frozen BK141.out 0
         have hns92_0 := NB115_141.out
         have hns92_1 := NB116_141.out
         have hms92_0 := NB141_115.out
         have hms92_1 := NB141_116.out
         have hs93 : w91.cell? ⟨gb141, 1, none⟩ = some (.int .i64 x116001_11) := (blk_cell BK141.out 1).trans rfl
         have hfs93 := blk_frozen BK141.out 1
         have hns93_0 := NB115_141.out
         have hns93_1 := NB116_141.out
         have hms93_0 := NB141_115.out
         have hms93_1 := NB141_116.out
         have hs94 : w91.cell? ⟨gb141, 2, none⟩ = some (.int .i64 x116002_11) := (blk_cell BK141.out 2).trans rfl
         have hfs94 := blk_frozen BK141.out 2
         have hns94_0 := NB115_141.out
         have hns94_1 := NB116_141.out
         have hms94_0 := NB141_115.out
         have hms94_1 := NB141_116.out
         refine skip_ (w1 := ?_) (by rfl) rfl ?_ ?_
         rotate_left
         ·go_simp
          rfl
         refine hK.out _ _ ⟨((cell_far (p := ⟨gb141, _, none⟩) NB115_141.out _).trans (((cell_far (p := ⟨gb141, _, none⟩) NB115_141.out _).trans (((cell_far (p := ⟨gb141, _, none⟩) NB115_141.out _).trans (hHeld.1)))))), ((cell_far (p := ⟨gb141, _, none⟩) NB115_141.out _).trans (((cell_far (p := ⟨gb141, _, none⟩) NB115_141.out _).trans (((cell_far (p := ⟨gb141, _, none⟩) NB115_141.out _).trans (hHeld.2.1)))))), ((cell_far (p := ⟨gb141, _, none⟩) NB115_141.out _).trans (((cell_far (p := ⟨gb141, _, none⟩) NB115_141.out _).trans (((cell_far (p := ⟨gb141, _, none⟩) NB115_141.out _).trans (hHeld.2.2.1)))))), ((cell_far (p := ⟨gb141, _, none⟩) NB115_141.out _).trans (((cell_far (p := ⟨gb141, _, none⟩) NB115_141.out _).trans (((cell_far (p := ⟨gb141, _, none⟩) NB115_141.out _).trans (hHeld.2.2.2.1)))))), ((cell_far (p := ⟨gb141, _, none⟩) NB115_141.out _).trans (((cell_far (p := ⟨gb141, _, none⟩) NB115_141.out _).trans (((cell_far (p := ⟨gb141, _, none⟩) NB115_141.out _).trans (hHeld.2.2.2.2.1)))))), ((cell_far (p := ⟨gb141, _, none⟩) NB115_141.out _).trans (((cell_far (p := ⟨gb141, _, none⟩) NB115_141.out _).trans (((cell_far (p := ⟨gb141, _, none⟩) NB115_141.out _).trans (hHeld.2.2.2.2.2))))))⟩ (fun hHeld => ?_)
         clear hK K
         refine pure_ (i := 16) (N := some 101) (v := ?_) (a' := ?_) #[true, true, true, true, true, true, true, true, true, true, true, true, true, true, true, true, true, false] rfl rfl (any_of HT_.out (by kernel_rfl)) (fun _ _ _ h => h) (Or.inl ⟨by rfl, ?_⟩) ?_ ?_
         rotate_left
         ·intro w'
          go_simp
          with_reducible rfl
         rotate_left
         ·simp only [Act.put, List.setIfInBounds_toArray, List.set_cons_zero, List.set_cons_succ, i64_w, i32_w]
          rfl
         refine one_ (i := 17) (N := none) #[true, true, true, true, true, true, true, true, true, true, true, true, true, true, true, true, true, true] rfl rfl (one_of HT_.out (by kernel_rfl)) (by decide) (fun K hK => ?_)
         have hs95 : w91.cell? ⟨gb141, 3, none⟩ = some (.int .i64 x116003_1) := (blk_cell BK141.out 3).trans rfl
         have hfs95 := blk_frozen BK141.out 3
         have hns95_0 := NB115_141.out
         have hns95_1 := NB116_141.out
         have hms95_0 := NB141_115.out
         have hms95_1 := NB141_116.out
         have hs96 : w91.cell? ⟨gb141, 4, none⟩ = some (.int .i64 x116004_1) := (blk_cell BK141.out 4).trans rfl
         have hfs96 := blk_frozen BK141.out 4
         have hns96_0 := NB115_141.out
         have hns96_1 := NB116_141.out
         have hms96_0 := NB141_115.out
         have hms96_1 := NB141_116.out
         have hs97 : w91.cell? ⟨gb141, 5, none⟩ = some (.int .i64 x116005_1) := (blk_cell BK141.out 5).trans rfl
         have hfs97 := blk_frozen BK141.out 5
         have hns97_0 := NB115_141.out
         have hns97_1 := NB116_141.out
         have hms97_0 := NB141_115.out
         have hms97_1 := NB141_116.out
         refine skip_ (w1 := ?_) (by rfl) rfl ?_ ?_
         rotate_left
         ·go_simp
          rfl
         refine hK.out _ _ ⟨((cell_far (p := ⟨gb141, _, none⟩) NB115_141.out _).trans (((cell_far (p := ⟨gb141, _, none⟩) NB115_141.out _).trans (((cell_far (p := ⟨gb141, _, none⟩) NB115_141.out _).trans (hHeld.1)))))), ((cell_far (p := ⟨gb141, _, none⟩) NB115_141.out _).trans (((cell_far (p := ⟨gb141, _, none⟩) NB115_141.out _).trans (((cell_far (p := ⟨gb141, _, none⟩) NB115_141.out _).trans (hHeld.2.1)))))), ((cell_far (p := ⟨gb141, _, none⟩) NB115_141.out _).trans (((cell_far (p := ⟨gb141, _, none⟩) NB115_141.out _).trans (((cell_far (p := ⟨gb141, _, none⟩) NB115_141.out _).trans (hHeld.2.2.1)))))), ((cell_far (p := ⟨gb141, _, none⟩) NB115_141.out _).trans (((cell_far (p := ⟨gb141, _, none⟩) NB115_141.out _).trans (((cell_far (p := ⟨gb141, _, none⟩) NB115_141.out _).trans (hHeld.2.2.2.1)))))), ((cell_far (p := ⟨gb141, _, none⟩) NB115_141.out _).trans (((cell_far (p := ⟨gb141, _, none⟩) NB115_141.out _).trans (((cell_far (p := ⟨gb141, _, none⟩) NB115_141.out _).trans (hHeld.2.2.2.2.1)))))), ((cell_far (p := ⟨gb141, _, none⟩) NB115_141.out _).trans (((cell_far (p := ⟨gb141, _, none⟩) NB115_141.out _).trans (((cell_far (p := ⟨gb141, _, none⟩) NB115_141.out _).trans (hHeld.2.2.2.2.2))))))⟩ (fun hHeld => ?_)
         clear hK K
         refine done_ (done_of HT_.out (by kernel_rfl)) ?_
         have hcz98_0 : w91.cell? ⟨gb141, 0, none⟩ = some (.int .i64 x116000_11) := (blk_cell BK141.out 0).trans rfl
         have hcz98_1 : w91.cell? ⟨gb141, 1, none⟩ = some (.int .i64 x116001_11) := (blk_cell BK141.out 1).trans rfl
         have hcz98_2 : w91.cell? ⟨gb141, 2, none⟩ = some (.int .i64 x116002_11) := (blk_cell BK141.out 2).trans rfl
         have hcz98_3 : w91.cell? ⟨gb141, 3, none⟩ = some (.int .i64 x116003_1) := (blk_cell BK141.out 3).trans rfl
         have hcz98_4 : w91.cell? ⟨gb141, 4, none⟩ = some (.int .i64 x116004_1) := (blk_cell BK141.out 4).trans rfl
         have hcz98_5 : w91.cell? ⟨gb141, 5, none⟩ = some (.int .i64 x116005_1) := (blk_cell BK141.out 5).trans rfl
         have hfz98_0 := blk_frozen BK141.out 0
         have hfz98_1 := blk_frozen BK141.out 1
         have hfz98_2 := blk_frozen BK141.out 2
         have hfz98_3 := blk_frozen BK141.out 3
         have hfz98_4 := blk_frozen BK141.out 4
         have hfz98_5 := blk_frozen BK141.out 5
         try go_wp2_with (first | ((with_reducible refine gate_callee (f := 19) rfl ?_); refine goesL_ (some 104) rfl rfl Try.func19 (by kernel_rfl) rfl #[.agg #[.int .i64 t142, .int .i64 t143, .int .i64 t144, .int .i64 t145, .int .i64 t146, .int .i64 t147]] rfl (by (try simp only [List.map_toArray, List.map_cons, List.map_nil]); first | done | rfl) ?_; (with_reducible refine (R_Volume.calls t142 t143 t144 t145 t146 t147 t148 _ A76.out).mono ?_); rintro e w99 ⟨rfl, hb⟩; refine ⟨_, rfl, ?_⟩; have n0_ := Aside0.mk (Kd.R_below (by (with_reducible repeat (first | apply Kd.R_alloc | apply Kd.R_drewN | apply Kd.R_drew)); exact (Kd.R_mono (Kd.R_far (p := ⟨gb141, 5, none⟩) (Kd.R_far (p := ⟨gb141, 4, none⟩) (Kd.R_far (p := ⟨gb141, 3, none⟩) (Kd.R_far (p := ⟨gb141, 2, none⟩) (Kd.R_far (p := ⟨gb141, 1, none⟩) (Kd.R_far (p := ⟨gb141, 0, none⟩) (Kd.R_types HO_8.out BK141.out (by decide)) (fun _ hk => hk.2) (.int .i64 t142)) (fun _ hk => hk.2) (.int .i64 t143)) (fun _ hk => hk.2) (.int .i64 t144)) (fun _ hk => hk.2) (.int .i64 t145)) (fun _ hk => hk.2) (.int .i64 t146)) (fun _ hk => hk.2) (.int .i64 t147)) (fun _ h_ => h_.1))) hb); have n1_ := Aside0.mk (blk_below (g := gb115) (o := .cells #[.int .i64 x116000_11, .int .i64 x116001_11, .int .i64 x116002_11, .int .i64 x116003_1, .int .i64 x116004_1, .int .i64 x116005_1] 25 (0, 0)) (by (with_reducible repeat (first | refine blk_drewN ?_ _ | refine blk_drew ?_ | refine blk_alloc ?_ _ | refine blk_far ?_ NB115_141.out _)); exact BK115.out) hb); have n2_ := Aside0.mk (blk_below (g := gb116) (o := .cells #[.int .i64 a1_0, .int .i64 a1_1, .int .i64 a1_2, .int .i64 a1_3, .int .i64 a1_4, .int .i64 a1_5] 25 (0, 0)) (by (with_reducible repeat (first | refine blk_drewN ?_ _ | refine blk_drew ?_ | refine blk_alloc ?_ _ | refine blk_far ?_ NB116_141.out _)); exact BK116.out) hb); have n3_ := Aside0.mk (blk_below (g := gb141) (o := .cells #[.int .i64 t142, .int .i64 t143, .int .i64 t144, .int .i64 t145, .int .i64 t146, .int .i64 t147] 25 (0, 0)) (by (with_reducible repeat (first | refine blk_drewN ?_ _ | refine blk_drew ?_ | refine blk_alloc ?_ _)); refine blk_put (cs := #[.int .i64 t142, .int .i64 t143, .int .i64 t144, .int .i64 t145, .int .i64 t146, .int .i64 x116005_1]) ?_ 5 _ rfl; (with_reducible repeat (first | refine blk_drewN ?_ _ | refine blk_drew ?_ | refine blk_alloc ?_ _)); refine blk_put (cs := #[.int .i64 t142, .int .i64 t143, .int .i64 t144, .int .i64 t145, .int .i64 x116004_1, .int .i64 x116005_1]) ?_ 4 _ rfl; (with_reducible repeat (first | refine blk_drewN ?_ _ | refine blk_drew ?_ | refine blk_alloc ?_ _)); refine blk_put (cs := #[.int .i64 t142, .int .i64 t143, .int .i64 t144, .int .i64 x116003_1, .int .i64 x116004_1, .int .i64 x116005_1]) ?_ 3 _ rfl; (with_reducible repeat (first | refine blk_drewN ?_ _ | refine blk_drew ?_ | refine blk_alloc ?_ _)); refine blk_put (cs := #[.int .i64 t142, .int .i64 t143, .int .i64 x116002_11, .int .i64 x116003_1, .int .i64 x116004_1, .int .i64 x116005_1]) ?_ 2 _ rfl; (with_reducible repeat (first | refine blk_drewN ?_ _ | refine blk_drew ?_ | refine blk_alloc ?_ _)); refine blk_put (cs := #[.int .i64 t142, .int .i64 x116001_11, .int .i64 x116002_11, .int .i64 x116003_1, .int .i64 x116004_1, .int .i64 x116005_1]) ?_ 1 _ rfl; (with_reducible repeat (first | refine blk_drewN ?_ _ | refine blk_drew ?_ | refine blk_alloc ?_ _)); refine blk_put (cs := #[.int .i64 x116000_11, .int .i64 x116001_11, .int .i64 x116002_11, .int .i64 x116003_1, .int .i64 x116004_1, .int .i64 x116005_1]) ?_ 0 _ rfl; (with_reducible repeat (first | refine blk_drewN ?_ _ | refine blk_drew ?_ | refine blk_alloc ?_ _)); exact BK141.out) hb); have n4_ := Aside0.mk (below_step (by repeat (first | (with_reducible first | exact HB.out | apply below_alloc | apply pw_below_drewN | apply below_drew1 | refine below_set ?_ GE115.out | refine below_set ?_ GE116.out | refine below_set ?_ GE141.out) | exact HB.out)) hb); clear HO_8; clear BK115; clear BK116; clear BK141; clear HB; have HO_8 := n0_; have BK115 := n1_; have BK116 := n2_; have BK141 := n3_; have HB := n4_; clear n0_ n1_ n2_ n3_ n4_; (try clear hb); (try clear hb2); (try clear hk); (try clear hi)) | ((with_reducible refine gate_builtin (b := .append) (xs := #[.tmp 109, .tmp 114]) rfl ?_); at_builtin; refine Kd.R_append k27 (w0 := w) w.heap.size rfl (.tmp 109) (.tmp 114) 62 27 (.agg #[(.int .i64 0), (.int .i64 0), (.int .i64 0)]) 24 rfl Try.underlying62 info27 rfl (by decide) (by omega) u8 x8_11 (⟨x10_1, t121, a2⟩ : S27) [.int .i64 x10_1, .int .i64 t121, .int .i64 a2] (fun _ => True) (fun _ => False) rfl rfl ?aP (fun _ hk => hk.elim) ?aF ?aO ?aB ?aS ?aL ?_; (case aP => exact k27_mkM _ _ _ (⟨x10_1, t121, a2⟩ : S27)); (case aB => exact (by repeat (first | (with_reducible first | exact HB.out | apply below_alloc | apply pw_below_drewN | apply below_drew1 | refine below_set ?_ GE115.out | refine below_set ?_ GE116.out | refine below_set ?_ GE141.out) | exact HB.out))); (case aF => exact (fun _ _ => trivial)); (case aO => exact (by (with_reducible repeat (first | apply Kd.R_alloc | apply Kd.R_drewN | apply Kd.R_drew)); exact HO_8.out)); (case aS => exact (below_size (by repeat (first | (with_reducible first | exact HB.out | apply below_alloc | apply pw_below_drewN | apply below_drew1 | refine below_set ?_ GE115.out | refine below_set ?_ GE116.out | refine below_set ?_ GE141.out) | exact HB.out)))); (case aL => have := LMc78.out; omega); intro v150 w100 ho hb hg hat; rw [← Ny149.out] at ho; have n0_ := Aside0.mk (KT.gL BK115.out hg (Kd.R_ne HO_8.out BK115.out (by decide))); have n1_ := Aside0.mk (KT.gL BK116.out hg (Kd.R_ne HO_8.out BK116.out (by decide))); have n2_ := Aside0.mk (KT.gL BK141.out hg (Kd.R_ne HO_8.out BK141.out (by decide))); have n3_ := Aside0.mk (hb); have n4_ := Aside0.mk (ho); clear BK115; clear BK116; clear BK141; clear HB; clear HO_8; have BK115 := n0_; have BK116 := n1_; have BK141 := n2_; have HB := n3_; have HO151 := n4_; clear n0_ n1_ n2_ n3_ n4_; clear ho hb hg hat; have hcz101_0 : w100.cell? ⟨gb115, 0, none⟩ = some (.int .i64 x116000_11) := (blk_cell BK115.out 0).trans rfl; have hcz101_1 : w100.cell? ⟨gb115, 1, none⟩ = some (.int .i64 x116001_11) := (blk_cell BK115.out 1).trans rfl; have hcz101_2 : w100.cell? ⟨gb115, 2, none⟩ = some (.int .i64 x116002_11) := (blk_cell BK115.out 2).trans rfl; have hcz101_3 : w100.cell? ⟨gb115, 3, none⟩ = some (.int .i64 x116003_1) := (blk_cell BK115.out 3).trans rfl; have hcz101_4 : w100.cell? ⟨gb115, 4, none⟩ = some (.int .i64 x116004_1) := (blk_cell BK115.out 4).trans rfl; have hcz101_5 : w100.cell? ⟨gb115, 5, none⟩ = some (.int .i64 x116005_1) := (blk_cell BK115.out 5).trans rfl; have hfz101_0 := blk_frozen BK115.out 0; have hfz101_1 := blk_frozen BK115.out 1; have hfz101_2 := blk_frozen BK115.out 2; have hfz101_3 := blk_frozen BK115.out 3; have hfz101_4 := blk_frozen BK115.out 4; have hfz101_5 := blk_frozen BK115.out 5) | ((with_reducible refine gate_callee (f := 49) rfl ?_); refine goesL_ (some 120) rfl rfl Try.func49 (by kernel_rfl) rfl #[.agg #[.int .i64 x116003_1, .int .i64 x116004_1, .int .i64 x116005_1], .int .i64 x10_1, .int .i64 t121] rfl (by (try simp only [List.map_toArray, List.map_cons, List.map_nil]); first | done | rfl) ?_; (with_reducible refine (R_Put.calls x116003_1 x116004_1 x116005_1 x10_1 t121 t152 t153 t154 _ A79.out).mono ?_); rintro e w102 ⟨rfl, hb⟩; refine ⟨_, rfl, ?_⟩; have n0_ := Aside0.mk (KT.rbL HO151.out hb); have n1_ := Aside0.mk (KT.bL BK115.out hb); have n2_ := Aside0.mk (KT.bL BK116.out hb); have n3_ := Aside0.mk (KT.bL BK141.out hb); have n4_ := Aside0.mk (below_step (by repeat (first | (with_reducible first | exact HB.out | apply below_alloc | apply pw_below_drewN | apply below_drew1 | refine below_set ?_ GE115.out | refine below_set ?_ GE116.out | refine below_set ?_ GE141.out) | exact HB.out)) hb); clear HO151; clear BK115; clear BK116; clear BK141; clear HB; have HO151 := n0_; have BK115 := n1_; have BK116 := n2_; have BK141 := n3_; have HB := n4_; clear n0_ n1_ n2_ n3_ n4_; (try clear hb); (try clear hb2); (try clear hk); (try clear hi); have hcz103_0 : w102.cell? ⟨gb115, 0, none⟩ = some (.int .i64 x116000_11) := (blk_cell BK115.out 0).trans rfl; have hcz103_1 : w102.cell? ⟨gb115, 1, none⟩ = some (.int .i64 x116001_11) := (blk_cell BK115.out 1).trans rfl; have hcz103_2 : w102.cell? ⟨gb115, 2, none⟩ = some (.int .i64 x116002_11) := (blk_cell BK115.out 2).trans rfl; have hcz103_3 : w102.cell? ⟨gb115, 3, none⟩ = some (.int .i64 x116003_1) := (blk_cell BK115.out 3).trans rfl; have hcz103_4 : w102.cell? ⟨gb115, 4, none⟩ = some (.int .i64 x116004_1) := (blk_cell BK115.out 4).trans rfl; have hcz103_5 : w102.cell? ⟨gb115, 5, none⟩ = some (.int .i64 x116005_1) := (blk_cell BK115.out 5).trans rfl; have hfz103_0 := blk_frozen BK115.out 0; have hfz103_1 := blk_frozen BK115.out 1; have hfz103_2 := blk_frozen BK115.out 2; have hfz103_3 := blk_frozen BK115.out 3; have hfz103_4 := blk_frozen BK115.out 4; have hfz103_5 := blk_frozen BK115.out 5))
         go_roundg kj11
         case measure => have := HK1.out; have := HJ11.out; omega
         case rel => exact ⟨(y149), (wrap64 (x9_11 + t148)), (wrap64 (x10_1 + 1)), (x116000_11), (x116001_11), (x116002_11), (t152), (t153), (t154), (by first | rfl | (simp; done) | (simp [*]; done)), (by first | rfl | (simp; done) | (simp [*]; done)), H', ⟨by have := HK1.out; have := HJ11.out; omega⟩, ⟨by (with_reducible repeat (first | apply Kd.R_alloc | apply Kd.R_drewN | apply Kd.R_drew)); exact Kd.R_mono (Kd.R_far (p := ⟨gb115, 5, none⟩) (Kd.R_far (p := ⟨gb115, 4, none⟩) (Kd.R_far (p := ⟨gb115, 3, none⟩) (Kd.R_types HO151.out BK115.out (by decide)) (fun _ hk => hk.2) (.int .i64 t152)) (fun _ hk => hk.2) (.int .i64 t153)) (fun _ hk => hk.2) (.int .i64 t154)) (fun _ hk => trivial)⟩, ⟨by (with_reducible repeat (first | refine blk_drewN ?_ _ | refine blk_drew ?_ | refine blk_alloc ?_ _)); refine blk_put (cs := #[.int .i64 x116000_11, .int .i64 x116001_11, .int .i64 x116002_11, .int .i64 t152, .int .i64 t153, .int .i64 x116005_1]) ?_ 5 _ rfl; (with_reducible repeat (first | refine blk_drewN ?_ _ | refine blk_drew ?_ | refine blk_alloc ?_ _)); refine blk_put (cs := #[.int .i64 x116000_11, .int .i64 x116001_11, .int .i64 x116002_11, .int .i64 t152, .int .i64 x116004_1, .int .i64 x116005_1]) ?_ 4 _ rfl; (with_reducible repeat (first | refine blk_drewN ?_ _ | refine blk_drew ?_ | refine blk_alloc ?_ _)); refine blk_put (cs := #[.int .i64 x116000_11, .int .i64 x116001_11, .int .i64 x116002_11, .int .i64 x116003_1, .int .i64 x116004_1, .int .i64 x116005_1]) ?_ 3 _ rfl; (with_reducible repeat (first | refine blk_drewN ?_ _ | refine blk_drew ?_ | refine blk_alloc ?_ _)); exact BK115.out⟩, ⟨by (with_reducible repeat (first | refine blk_drewN ?_ _ | refine blk_drew ?_ | refine blk_alloc ?_ _ | refine blk_far ?_ NB116_115.out _)); exact BK116.out⟩, ⟨by repeat (first | (with_reducible first | exact HB.out | apply below_alloc | apply pw_below_drewN | apply below_drew1 | refine below_set ?_ GE115.out | refine below_set ?_ GE116.out | refine below_set ?_ GE141.out) | exact HB.out)⟩⟩
        ·rw [if_neg c78] at H
         exact absurd H (by simp)
       ·rw [if_neg c77] at H
        have c77b0 : decide (a2 < (wrap64 (t140 - t121))) = false := decide_eq_false c77
        clear c77
        replace H := Option.bind_eq_some_iff.mp H
        obtain ⟨⟨t155, t156, t157⟩, A1040, H⟩ := H
        replace H : (R_Trim.l0 kj11 a2 x8_11 (wrap64 (x9_11 + t148)) (wrap64 (x10_1 + 1)) x116000_11 x116001_11 x116002_11 t155 t156 t157 a1_0 a1_1 a1_2 a1_3 a1_4 a1_5) = some (r1, r2) := H
        have A104 := Aside0.mk A1040
        clear A1040
        have H' := Aside0.mk H
        clear H
        have hnb105 := NB115_116.out
        have hnc105 := NB116_115.out
        have hcz106_0 : wc.cell? ⟨gb115, 0, none⟩ = some (.int .i64 x116000_11) := (blk_cell BK115.out 0).trans rfl
        have hcz106_1 : wc.cell? ⟨gb115, 1, none⟩ = some (.int .i64 x116001_11) := (blk_cell BK115.out 1).trans rfl
        have hcz106_2 : wc.cell? ⟨gb115, 2, none⟩ = some (.int .i64 x116002_11) := (blk_cell BK115.out 2).trans rfl
        have hcz106_3 : wc.cell? ⟨gb115, 3, none⟩ = some (.int .i64 x116003_1) := (blk_cell BK115.out 3).trans rfl
        have hcz106_4 : wc.cell? ⟨gb115, 4, none⟩ = some (.int .i64 x116004_1) := (blk_cell BK115.out 4).trans rfl
        have hcz106_5 : wc.cell? ⟨gb115, 5, none⟩ = some (.int .i64 x116005_1) := (blk_cell BK115.out 5).trans rfl
        have hfz106_0 := blk_frozen BK115.out 0
        have hfz106_1 := blk_frozen BK115.out 1
        have hfz106_2 := blk_frozen BK115.out 2
        have hfz106_3 := blk_frozen BK115.out 3
        have hfz106_4 := blk_frozen BK115.out 4
        have hfz106_5 := blk_frozen BK115.out 5
        try go_wp2_with (first | ((with_reducible refine gate_callee (f := 41) rfl ?_); refine goesL_ (some 80) rfl rfl Try.func41 (by kernel_rfl) rfl #[.agg #[.int .i64 x116003_1, .int .i64 x116004_1, .int .i64 x116005_1], .int .i64 x10_1] rfl (by (try simp only [List.map_toArray, List.map_cons, List.map_nil]); first | done | rfl) ?_; (with_reducible refine (R_Get.calls x116003_1 x116004_1 x116005_1 x10_1 t140 _ A71.out).mono ?_); rintro e w107 ⟨rfl, hb⟩; refine ⟨_, rfl, ?_⟩; have n0_ := Aside0.mk (KT.rbL HO_8.out hb); have n1_ := Aside0.mk (KT.bL BK115.out hb); have n2_ := Aside0.mk (KT.bL BK116.out hb); have n3_ := Aside0.mk (below_step (by repeat (first | (with_reducible first | exact HB.out | apply below_alloc | apply pw_below_drewN | apply below_drew1 | refine below_set ?_ GE115.out | refine below_set ?_ GE116.out) | exact HB.out)) hb); clear HO_8; clear BK115; clear BK116; clear HB; have HO_8 := n0_; have BK115 := n1_; have BK116 := n2_; have HB := n3_; clear n0_ n1_ n2_ n3_; (try clear hb); (try clear hb2); (try clear hk); (try clear hi); have hcz108_0 : w107.cell? ⟨gb115, 0, none⟩ = some (.int .i64 x116000_11) := (blk_cell BK115.out 0).trans rfl; have hcz108_1 : w107.cell? ⟨gb115, 1, none⟩ = some (.int .i64 x116001_11) := (blk_cell BK115.out 1).trans rfl; have hcz108_2 : w107.cell? ⟨gb115, 2, none⟩ = some (.int .i64 x116002_11) := (blk_cell BK115.out 2).trans rfl; have hcz108_3 : w107.cell? ⟨gb115, 3, none⟩ = some (.int .i64 x116003_1) := (blk_cell BK115.out 3).trans rfl; have hcz108_4 : w107.cell? ⟨gb115, 4, none⟩ = some (.int .i64 x116004_1) := (blk_cell BK115.out 4).trans rfl; have hcz108_5 : w107.cell? ⟨gb115, 5, none⟩ = some (.int .i64 x116005_1) := (blk_cell BK115.out 5).trans rfl; have hfz108_0 := blk_frozen BK115.out 0; have hfz108_1 := blk_frozen BK115.out 1; have hfz108_2 := blk_frozen BK115.out 2; have hfz108_3 := blk_frozen BK115.out 3; have hfz108_4 := blk_frozen BK115.out 4; have hfz108_5 := blk_frozen BK115.out 5) | ((with_reducible refine gate_dst (N := 16) rfl ?_); refine box_event ?hg (N := 16) ?hd (cs := #[.int .i64 0, .int .i64 0, .int .i64 0, .int .i64 0, .int .i64 0, .int .i64 0]) (t := 25) ?hr ?_; (case hd => rfl); (case hg => rfl); (case hr => first | (go_simp; done) | (go_simp; rfl)); intro gb141 hg w109 hbox hb; have n0_ := Aside0.mk (KT.rbL HO_8.out hb); have n1_ := Aside0.mk (KT.bL BK115.out hb); have n2_ := Aside0.mk (KT.bL BK116.out hb); have n3_ := Aside0.mk (below_step (by repeat (first | (with_reducible first | exact HB.out | apply below_alloc | apply pw_below_drewN | apply below_drew1 | refine below_set ?_ GE115.out | refine below_set ?_ GE116.out) | exact HB.out)) hb); have n4_ := Aside0.mk (hbox); have n5_ := Aside0.mk ((by rw [hg]; exact (below_size (by repeat (first | (with_reducible first | exact HB.out | apply below_alloc | apply pw_below_drewN | apply below_drew1 | refine below_set ?_ GE115.out | refine below_set ?_ GE116.out) | exact HB.out))) : w.heap.size ≤ gb141)); have n6_ := Aside0.mk ((by rw [hg]; exact (below_size (by repeat (first | (with_reducible first | exact HB.out | apply below_alloc | apply pw_below_drewN | apply below_drew1 | refine below_set ?_ GE115.out | refine below_set ?_ GE116.out) | exact HB.out))) : w.heap.size ≤ gb141)); have n7_ := Aside0.mk ((by rw [hg]; exact Nat.ne_of_lt (KT.lL BK115.out) : gb115 ≠ gb141)); have n8_ := Aside0.mk ((by rw [hg]; exact Nat.ne_of_gt (KT.lL BK115.out) : gb141 ≠ gb115)); have n9_ := Aside0.mk ((by rw [hg]; exact Nat.ne_of_lt (KT.lL BK116.out) : gb116 ≠ gb141)); have n10_ := Aside0.mk ((by rw [hg]; exact Nat.ne_of_gt (KT.lL BK116.out) : gb141 ≠ gb116)); clear HO_8; clear BK115; clear BK116; clear HB; have HO_8 := n0_; have BK115 := n1_; have BK116 := n2_; have HB := n3_; have BK141 := n4_; have GW141 := n5_; have GE141 := n6_; have NB115_141 := n7_; have NB141_115 := n8_; have NB116_141 := n9_; have NB141_116 := n10_; clear n0_ n1_ n2_ n3_ n4_ n5_ n6_ n7_ n8_ n9_ n10_; clear hb hbox hg; have hnb110 := NB141_115.out; have hnc110 := NB115_141.out; have hnb111 := NB141_116.out; have hnc111 := NB116_141.out; have hcz112_0 : w109.cell? ⟨gb141, 0, none⟩ = some (.int .i64 0) := (blk_cell BK141.out 0).trans rfl; have hcz112_1 : w109.cell? ⟨gb141, 1, none⟩ = some (.int .i64 0) := (blk_cell BK141.out 1).trans rfl; have hcz112_2 : w109.cell? ⟨gb141, 2, none⟩ = some (.int .i64 0) := (blk_cell BK141.out 2).trans rfl; have hcz112_3 : w109.cell? ⟨gb141, 3, none⟩ = some (.int .i64 0) := (blk_cell BK141.out 3).trans rfl; have hcz112_4 : w109.cell? ⟨gb141, 4, none⟩ = some (.int .i64 0) := (blk_cell BK141.out 4).trans rfl; have hcz112_5 : w109.cell? ⟨gb141, 5, none⟩ = some (.int .i64 0) := (blk_cell BK141.out 5).trans rfl; have hfz112_0 := blk_frozen BK141.out 0; have hfz112_1 := blk_frozen BK141.out 1; have hfz112_2 := blk_frozen BK141.out 2; have hfz112_3 := blk_frozen BK141.out 3; have hfz112_4 := blk_frozen BK141.out 4; have hfz112_5 := blk_frozen BK141.out 5))
        have n0_ : Aside0 (Kd.R k27 27 ((((((w109.setCell ⟨gb141, 0, none⟩ (.int .i64 x116000_11)).setCell ⟨gb141, 1, none⟩ (.int .i64 x116001_11)).setCell ⟨gb141, 2, none⟩ (.int .i64 x116002_11)).setCell ⟨gb141, 3, none⟩ (.int .i64 x116003_1)).setCell ⟨gb141, 4, none⟩ (.int .i64 x116004_1)).setCell ⟨gb141, 5, none⟩ (.int .i64 x116005_1)) w.heap.size (fun _ => True) u8 x8_11) := ⟨by (with_reducible repeat (first | apply Kd.R_alloc | apply Kd.R_drewN | apply Kd.R_drew)); exact Kd.R_mono (Kd.R_far (p := ⟨gb141, 5, none⟩) (Kd.R_far (p := ⟨gb141, 4, none⟩) (Kd.R_far (p := ⟨gb141, 3, none⟩) (Kd.R_far (p := ⟨gb141, 2, none⟩) (Kd.R_far (p := ⟨gb141, 1, none⟩) (Kd.R_far (p := ⟨gb141, 0, none⟩) (Kd.R_types HO_8.out BK141.out (by decide)) (fun _ hk => hk.2) (.int .i64 x116000_11)) (fun _ hk => hk.2) (.int .i64 x116001_11)) (fun _ hk => hk.2) (.int .i64 x116002_11)) (fun _ hk => hk.2) (.int .i64 x116003_1)) (fun _ hk => hk.2) (.int .i64 x116004_1)) (fun _ hk => hk.2) (.int .i64 x116005_1)) (fun _ hk => trivial)⟩
        have n1_ : Aside0 (((((((w109.setCell ⟨gb141, 0, none⟩ (.int .i64 x116000_11)).setCell ⟨gb141, 1, none⟩ (.int .i64 x116001_11)).setCell ⟨gb141, 2, none⟩ (.int .i64 x116002_11)).setCell ⟨gb141, 3, none⟩ (.int .i64 x116003_1)).setCell ⟨gb141, 4, none⟩ (.int .i64 x116004_1)).setCell ⟨gb141, 5, none⟩ (.int .i64 x116005_1)).heap[gb115]? = some (.cells #[.int .i64 x116000_11, .int .i64 x116001_11, .int .i64 x116002_11, .int .i64 x116003_1, .int .i64 x116004_1, .int .i64 x116005_1] 25 (0, 0))) := ⟨by (with_reducible repeat (first | refine blk_drewN ?_ _ | refine blk_drew ?_ | refine blk_alloc ?_ _ | refine blk_far ?_ NB115_141.out _)); exact BK115.out⟩
        have n2_ : Aside0 (((((((w109.setCell ⟨gb141, 0, none⟩ (.int .i64 x116000_11)).setCell ⟨gb141, 1, none⟩ (.int .i64 x116001_11)).setCell ⟨gb141, 2, none⟩ (.int .i64 x116002_11)).setCell ⟨gb141, 3, none⟩ (.int .i64 x116003_1)).setCell ⟨gb141, 4, none⟩ (.int .i64 x116004_1)).setCell ⟨gb141, 5, none⟩ (.int .i64 x116005_1)).heap[gb116]? = some (.cells #[.int .i64 a1_0, .int .i64 a1_1, .int .i64 a1_2, .int .i64 a1_3, .int .i64 a1_4, .int .i64 a1_5] 25 (0, 0))) := ⟨by (with_reducible repeat (first | refine blk_drewN ?_ _ | refine blk_drew ?_ | refine blk_alloc ?_ _ | refine blk_far ?_ NB116_141.out _)); exact BK116.out⟩
        have n3_ : Aside0 (((((((w109.setCell ⟨gb141, 0, none⟩ (.int .i64 x116000_11)).setCell ⟨gb141, 1, none⟩ (.int .i64 x116001_11)).setCell ⟨gb141, 2, none⟩ (.int .i64 x116002_11)).setCell ⟨gb141, 3, none⟩ (.int .i64 x116003_1)).setCell ⟨gb141, 4, none⟩ (.int .i64 x116004_1)).setCell ⟨gb141, 5, none⟩ (.int .i64 x116005_1)).heap[gb141]? = some (.cells #[.int .i64 x116000_11, .int .i64 x116001_11, .int .i64 x116002_11, .int .i64 x116003_1, .int .i64 x116004_1, .int .i64 x116005_1] 25 (0, 0))) := ⟨by (with_reducible repeat (first | refine blk_drewN ?_ _ | refine blk_drew ?_ | refine blk_alloc ?_ _)); refine blk_put (cs := #[.int .i64 x116000_11, .int .i64 x116001_11, .int .i64 x116002_11, .int .i64 x116003_1, .int .i64 x116004_1, .int .i64 0]) ?_ 5 _ rfl; (with_reducible repeat (first | refine blk_drewN ?_ _ | refine blk_drew ?_ | refine blk_alloc ?_ _)); refine blk_put (cs := #[.int .i64 x116000_11, .int .i64 x116001_11, .int .i64 x116002_11, .int .i64 x116003_1, .int .i64 0, .int .i64 0]) ?_ 4 _ rfl; (with_reducible repeat (first | refine blk_drewN ?_ _ | refine blk_drew ?_ | refine blk_alloc ?_ _)); refine blk_put (cs := #[.int .i64 x116000_11, .int .i64 x116001_11, .int .i64 x116002_11, .int .i64 0, .int .i64 0, .int .i64 0]) ?_ 3 _ rfl; (with_reducible repeat (first | refine blk_drewN ?_ _ | refine blk_drew ?_ | refine blk_alloc ?_ _)); refine blk_put (cs := #[.int .i64 x116000_11, .int .i64 x116001_11, .int .i64 0, .int .i64 0, .int .i64 0, .int .i64 0]) ?_ 2 _ rfl; (with_reducible repeat (first | refine blk_drewN ?_ _ | refine blk_drew ?_ | refine blk_alloc ?_ _)); refine blk_put (cs := #[.int .i64 x116000_11, .int .i64 0, .int .i64 0, .int .i64 0, .int .i64 0, .int .i64 0]) ?_ 1 _ rfl; (with_reducible repeat (first | refine blk_drewN ?_ _ | refine blk_drew ?_ | refine blk_alloc ?_ _)); refine blk_put (cs := #[.int .i64 0, .int .i64 0, .int .i64 0, .int .i64 0, .int .i64 0, .int .i64 0]) ?_ 0 _ rfl; (with_reducible repeat (first | refine blk_drewN ?_ _ | refine blk_drew ?_ | refine blk_alloc ?_ _)); exact BK141.out⟩
        have n4_ : Aside0 (Below w.heap.size w ((((((w109.setCell ⟨gb141, 0, none⟩ (.int .i64 x116000_11)).setCell ⟨gb141, 1, none⟩ (.int .i64 x116001_11)).setCell ⟨gb141, 2, none⟩ (.int .i64 x116002_11)).setCell ⟨gb141, 3, none⟩ (.int .i64 x116003_1)).setCell ⟨gb141, 4, none⟩ (.int .i64 x116004_1)).setCell ⟨gb141, 5, none⟩ (.int .i64 x116005_1))) := ⟨by repeat (first | (with_reducible first | exact HB.out | apply below_alloc | apply pw_below_drewN | apply below_drew1 | refine below_set ?_ GE115.out | refine below_set ?_ GE116.out | refine below_set ?_ GE141.out) | exact HB.out)⟩
        (try clear HO_8)
        (try clear BK115)
        (try clear BK116)
        (try clear BK141)
        (try clear HB)
        generalize ((((((w109.setCell ⟨gb141, 0, none⟩ (.int .i64 x116000_11)).setCell ⟨gb141, 1, none⟩ (.int .i64 x116001_11)).setCell ⟨gb141, 2, none⟩ (.int .i64 x116002_11)).setCell ⟨gb141, 3, none⟩ (.int .i64 x116003_1)).setCell ⟨gb141, 4, none⟩ (.int .i64 x116004_1)).setCell ⟨gb141, 5, none⟩ (.int .i64 x116005_1)) = w113 at n0_ n1_ n2_ n3_ n4_ ⊢
        have HO_8 := n0_
        have BK115 := n1_
        have BK116 := n2_
        have BK141 := n3_
        have HB := n4_
        clear n0_ n1_ n2_ n3_ n4_
        have n0_ := Aside0.mk (Kd.R_drew HO_8.out)
        have n1_ := Aside0.mk (blk_drew BK115.out)
        have n2_ := Aside0.mk (blk_drew BK116.out)
        have n3_ := Aside0.mk (blk_drew BK141.out)
        have n4_ := Aside0.mk (below_drew1 HB.out)
        clear HO_8
        clear BK115
        clear BK116
        clear BK141
        clear HB
        have HO_8 := n0_
        have BK115 := n1_
        have BK116 := n2_
        have BK141 := n3_
        have HB := n4_
        clear n0_ n1_ n2_ n3_ n4_
        refine start_ (n := 18) (S := fun w' => w'.cell? ⟨gb115, 0, none⟩ = some (.int .i64 x116000_11) ∧ w'.cell? ⟨gb115, 1, none⟩ = some (.int .i64 x116001_11) ∧ w'.cell? ⟨gb115, 2, none⟩ = some (.int .i64 x116002_11) ∧ w'.cell? ⟨gb115, 3, none⟩ = some (.int .i64 x116003_1) ∧ w'.cell? ⟨gb115, 4, none⟩ = some (.int .i64 x116004_1) ∧ w'.cell? ⟨gb115, 5, none⟩ = some (.int .i64 x116005_1)) (ds := []) #[false, false, false, false, false, false, false, false, false, false, false, false, false, false, false, false, false, false] (by kernel_rfl) rfl rfl ⟨(blk_cell BK115.out 0).trans rfl, (blk_cell BK115.out 1).trans rfl, (blk_cell BK115.out 2).trans rfl, (blk_cell BK115.out 3).trans rfl, (blk_cell BK115.out 4).trans rfl, (blk_cell BK115.out 5).trans rfl⟩ (fun hHeld => ?_); refine with_tabW R_Trim.tab18 R_Trim.bits18 (fun HT_ HW_ => ?_)
        generalize w113.drew = w114 at HO_8 BK115 BK116 BK141 HB hHeld ⊢
        refine pure_ (i := 0) (N := some 86) (v := ?_) (a' := ?_) #[true, false, false, false, false, false, false, false, false, false, false, false, false, false, false, false, false, false] rfl rfl (any_of HT_.out (by kernel_rfl)) (fun _ _ _ h => h) (Or.inl ⟨by rfl, ?_⟩) ?_ ?_
        rotate_left
        ·intro w'
         go_simp
         with_reducible rfl
        rotate_left
        ·simp only [Act.put, List.setIfInBounds_toArray, List.set_cons_zero, List.set_cons_succ, i64_w, i32_w]
         rfl
        refine pure_ (i := 2) (N := some 88) (v := ?_) (a' := ?_) #[true, false, true, false, false, false, false, false, false, false, false, false, false, false, false, false, false, false] rfl rfl (any_of HT_.out (by kernel_rfl)) (fun _ _ _ h => h) (Or.inl ⟨by rfl, ?_⟩) ?_ ?_
        rotate_left
        ·intro w'
         go_simp
         with_reducible rfl
        rotate_left
        ·simp only [Act.put, List.setIfInBounds_toArray, List.set_cons_zero, List.set_cons_succ, i64_w, i32_w]
         rfl
        refine pure_ (i := 3) (N := some 89) (v := ?_) (a' := ?_) #[true, false, true, true, false, false, false, false, false, false, false, false, false, false, false, false, false, false] rfl rfl (any_of HT_.out (by kernel_rfl)) (fun _ _ _ h => h) (Or.inl ⟨by rfl, ?_⟩) ?_ ?_
        rotate_left
        ·intro w'
         go_simp
         with_reducible rfl
        rotate_left
        ·simp only [Act.put, List.setIfInBounds_toArray, List.set_cons_zero, List.set_cons_succ, i64_w, i32_w]
         rfl
        refine pure_ (i := 5) (N := some 91) (v := ?_) (a' := ?_) #[true, false, true, true, false, true, false, false, false, false, false, false, false, false, false, false, false, false] rfl rfl (any_of HT_.out (by kernel_rfl)) (fun _ _ _ h => h) (Or.inl ⟨by rfl, ?_⟩) ?_ ?_
        rotate_left
        ·intro w'
         go_simp
         with_reducible rfl
        rotate_left
        ·simp only [Act.put, List.setIfInBounds_toArray, List.set_cons_zero, List.set_cons_succ, i64_w, i32_w]
         rfl
        refine pure_ (i := 7) (N := some 93) (v := ?_) (a' := ?_) #[true, false, true, true, false, true, false, true, false, false, false, false, false, false, false, false, false, false] rfl rfl (any_of HT_.out (by kernel_rfl)) (fun _ _ _ h => h) (Or.inl ⟨by rfl, ?_⟩) ?_ ?_
        rotate_left
        ·intro w'
         go_simp
         with_reducible rfl
        rotate_left
        ·simp only [Act.put, List.setIfInBounds_toArray, List.set_cons_zero, List.set_cons_succ, i64_w, i32_w]
         rfl
        refine pure_ (i := 8) (N := some 94) (v := ?_) (a' := ?_) #[true, false, true, true, false, true, false, true, true, false, false, false, false, false, false, false, false, false] rfl rfl (any_of HT_.out (by kernel_rfl)) (fun _ _ _ h => h) (Or.inl ⟨by rfl, ?_⟩) ?_ ?_
        rotate_left
        ·intro w'
         go_simp
         with_reducible rfl
        rotate_left
        ·simp only [Act.put, List.setIfInBounds_toArray, List.set_cons_zero, List.set_cons_succ, i64_w, i32_w]
         rfl
        refine pure_ (i := 9) (N := some 95) (v := ?_) (a' := ?_) #[true, false, true, true, false, true, false, true, true, true, false, false, false, false, false, false, false, false] rfl rfl (any_of HT_.out (by kernel_rfl)) (fun _ _ _ h => h) (Or.inl ⟨by rfl, ?_⟩) ?_ ?_
        rotate_left
        ·intro w'
         go_simp
         with_reducible rfl
        rotate_left
        ·simp only [Act.put, List.setIfInBounds_toArray, List.set_cons_zero, List.set_cons_succ, i64_w, i32_w]
         rfl
        refine pure_ (i := 10) (N := some 96) (v := ?_) (a' := ?_) #[true, false, true, true, false, true, false, true, true, true, true, false, false, false, false, false, false, false] rfl rfl (any_of HT_.out (by kernel_rfl)) (fun _ _ _ h => h) (Or.inl ⟨by rfl, ?_⟩) ?_ ?_
        rotate_left
        ·intro w'
         go_simp
         with_reducible rfl
        rotate_left
        ·simp only [Act.put, List.setIfInBounds_toArray, List.set_cons_zero, List.set_cons_succ, i64_w, i32_w]
         rfl
        refine pure_ (i := 11) (N := some 97) (v := ?_) (a' := ?_) #[true, false, true, true, false, true, false, true, true, true, true, true, false, false, false, false, false, false] rfl rfl (any_of HT_.out (by kernel_rfl)) (fun _ _ _ h => h) (Or.inl ⟨by rfl, ?_⟩) ?_ ?_
        rotate_left
        ·intro w'
         go_simp
         with_reducible rfl
        rotate_left
        ·simp only [Act.put, List.setIfInBounds_toArray, List.set_cons_zero, List.set_cons_succ, i64_w, i32_w]
         rfl
        refine pure_ (i := 12) (N := some 98) (v := ?_) (a' := ?_) #[true, false, true, true, false, true, false, true, true, true, true, true, true, false, false, false, false, false] rfl rfl (any_of HT_.out (by kernel_rfl)) (fun _ _ _ h => h) (Or.inl ⟨by rfl, ?_⟩) ?_ ?_
        rotate_left
        ·intro w'
         go_simp
         with_reducible rfl
        rotate_left
        ·simp only [Act.put, List.setIfInBounds_toArray, List.set_cons_zero, List.set_cons_succ, i64_w, i32_w]
         rfl
        refine take_ (i := 1) (N := some 87) (v := ?_) (a' := ?_) #[true, true, true, true, false, true, false, true, true, true, true, true, true, false, false, false, false, false] rfl rfl (take_ofW HT_.out HW_.out (by kernel_rfl)) (fun _ _ _ h => h) (Or.inl ⟨by rfl, ?_⟩) hHeld ?_ ?_
        rotate_left
        ·rintro w' ⟨s0, s1, s2, s3, s4, s5⟩
         go_simp
         with_reducible rfl
        rotate_left
        ·simp only [Act.put, List.setIfInBounds_toArray, List.set_cons_zero, List.set_cons_succ, i64_w, i32_w]
         rfl
        refine take_ (i := 6) (N := some 92) (v := ?_) (a' := ?_) #[true, true, true, true, false, true, true, true, true, true, true, true, true, false, false, false, false, false] rfl rfl (take_ofW HT_.out HW_.out (by kernel_rfl)) (fun _ _ _ h => h) (Or.inl ⟨by rfl, ?_⟩) hHeld ?_ ?_
        rotate_left
        ·rintro w' ⟨s0, s1, s2, s3, s4, s5⟩
         go_simp
         with_reducible rfl
        rotate_left
        ·simp only [Act.put, List.setIfInBounds_toArray, List.set_cons_zero, List.set_cons_succ, i64_w, i32_w]
         rfl
        refine one_ (i := 4) (N := some 90) #[true, true, true, true, true, true, true, true, true, true, true, true, true, false, false, false, false, false] rfl rfl (one_of HT_.out (by kernel_rfl)) (by decide) (fun K hK => ?_)
        refine goes_ Try.func49 (by kernel_rfl) rfl #[.agg #[.int .i64 x116000_11, .int .i64 x116001_11, .int .i64 x116002_11], .int .i64 x10_1, .int .i64 t121] (by rfl) rfl rfl (by (try simp only [List.map_toArray, List.map_cons, List.map_nil]); first | done | rfl) ?_
        with_reducible refine (R_Put.calls x116000_11 x116001_11 x116002_11 x10_1 t121 t142 t143 t144 _ A73.out).mono ?_
        rintro e w115 ⟨rfl, hb⟩
        refine ⟨_, rfl, ?_⟩
        have n0_ := Aside0.mk (KT.rbL HO_8.out hb)
        have n1_ := Aside0.mk (KT.bL BK115.out hb)
        have n2_ := Aside0.mk (KT.bL BK116.out hb)
        have n3_ := Aside0.mk (KT.bL BK141.out hb)
        have n4_ := Aside0.mk (below_step (by repeat (first | (with_reducible first | exact HB.out | apply below_alloc | apply pw_below_drewN | apply below_drew1 | refine below_set ?_ GE115.out | refine below_set ?_ GE116.out | refine below_set ?_ GE141.out) | exact HB.out)) hb)
        clear HO_8
        clear BK115
        clear BK116
        clear BK141
        clear HB
        have HO_8 := n0_
        have BK115 := n1_
        have BK116 := n2_
        have BK141 := n3_
        have HB := n4_
        clear n0_ n1_ n2_ n3_ n4_
        (try clear hb)
        (try clear hb2)
        (try clear hk)
        (try clear hi)
        refine hK.out _ _ ⟨(blk_cell BK115.out 0).trans rfl, (blk_cell BK115.out 1).trans rfl, (blk_cell BK115.out 2).trans rfl, (blk_cell BK115.out 3).trans rfl, (blk_cell BK115.out 4).trans rfl, (blk_cell BK115.out 5).trans rfl⟩ (fun hHeld => ?_)
        clear hK K
        refine norm_ (a' := ?_) ?_ ?_
        rotate_left
        ·show Act.put _ (some 90) _ = _
         simp only [Act.put, List.setIfInBounds_toArray, List.set_cons_zero, List.set_cons_succ, i64_w, i32_w]
         rfl
        refine pure_ (i := 14) (N := some 100) (v := ?_) (a' := ?_) #[true, true, true, true, true, true, true, true, true, true, true, true, true, false, true, false, false, false] rfl rfl (any_of HT_.out (by kernel_rfl)) (fun _ _ _ h => h) (Or.inl ⟨by rfl, ?_⟩) ?_ ?_
        rotate_left
        ·intro w'
         go_simp
         with_reducible rfl
        rotate_left
        ·simp only [Act.put, List.setIfInBounds_toArray, List.set_cons_zero, List.set_cons_succ, i64_w, i32_w]
         rfl
        refine one_ (i := 13) (N := some 99) #[true, true, true, true, true, true, true, true, true, true, true, true, true, true, true, false, false, false] rfl rfl (one_of HT_.out (by kernel_rfl)) (by decide) (fun K hK => ?_)
        refine goes_ Try.func49 (by kernel_rfl) rfl #[.agg #[.int .i64 x116003_1, .int .i64 x116004_1, .int .i64 x116005_1], .int .i64 x10_1, .int .i64 (wrap64 (t121 + (ji74)))] (by rfl) rfl rfl (by (try simp only [List.map_toArray, List.map_cons, List.map_nil]); first | done | (simp only [hji74]; rfl) | rfl | (simp only [List.length_drop, List.length_take]; rfl)) ?_
        with_reducible refine (R_Put.calls x116003_1 x116004_1 x116005_1 x10_1 (wrap64 (t121 + (ji74))) t145 t146 t147 _ A75.out).mono ?_
        rintro e w116 ⟨rfl, hb⟩
        refine ⟨_, rfl, ?_⟩
        have n0_ := Aside0.mk (KT.rbL HO_8.out hb)
        have n1_ := Aside0.mk (KT.bL BK115.out hb)
        have n2_ := Aside0.mk (KT.bL BK116.out hb)
        have n3_ := Aside0.mk (KT.bL BK141.out hb)
        have n4_ := Aside0.mk (below_step (by repeat (first | (with_reducible first | exact HB.out | apply below_alloc | apply pw_below_drewN | apply below_drew1 | refine below_set ?_ GE115.out | refine below_set ?_ GE116.out | refine below_set ?_ GE141.out) | exact HB.out)) hb)
        clear HO_8
        clear BK115
        clear BK116
        clear BK141
        clear HB
        have HO_8 := n0_
        have BK115 := n1_
        have BK116 := n2_
        have BK141 := n3_
        have HB := n4_
        clear n0_ n1_ n2_ n3_ n4_
        (try clear hb)
        (try clear hb2)
        (try clear hk)
        (try clear hi)
        refine hK.out _ _ ⟨(blk_cell BK115.out 0).trans rfl, (blk_cell BK115.out 1).trans rfl, (blk_cell BK115.out 2).trans rfl, (blk_cell BK115.out 3).trans rfl, (blk_cell BK115.out 4).trans rfl, (blk_cell BK115.out 5).trans rfl⟩ (fun hHeld => ?_)
        clear hK K
        refine norm_ (a' := ?_) ?_ ?_
        rotate_left
        ·show Act.put _ (some 99) _ = _
         simp only [Act.put, List.setIfInBounds_toArray, List.set_cons_zero, List.set_cons_succ, i64_w, i32_w]
         rfl
        refine one_ (i := 15) (N := none) #[true, true, true, true, true, true, true, true, true, true, true, true, true, true, true, true, false, false] rfl rfl (one_of HT_.out (by kernel_rfl)) (by decide) (fun K hK => ?_)
        have hs117 : w116.cell? ⟨gb141, 0, none⟩ = some (.int .i64 x116000_11) := (blk_cell BK141.out 0).trans rfl
        have hfs117 := blk_frozen BK141.out 0
        have hns117_0 := NB115_141.out
        have hns117_1 := NB116_141.out
        have hms117_0 := NB141_115.out
        have hms117_1 := NB141_116.out
        have hs118 : w116.cell? ⟨gb141, 1, none⟩ = some (.int .i64 x116001_11) := (blk_cell BK141.out 1).trans rfl
        have hfs118 := blk_frozen BK141.out 1
        have hns118_0 := NB115_141.out
        have hns118_1 := NB116_141.out
        have hms118_0 := NB141_115.out
        have hms118_1 := NB141_116.out
        have hs119 : w116.cell? ⟨gb141, 2, none⟩ = some (.int .i64 x116002_11) := (blk_cell BK141.out 2).trans rfl
        have hfs119 := blk_frozen BK141.out 2
        have hns119_0 := NB115_141.out
        have hns119_1 := NB116_141.out
        have hms119_0 := NB141_115.out
        have hms119_1 := NB141_116.out
        refine skip_ (w1 := ?_) (by rfl) rfl ?_ ?_
        rotate_left
        ·go_simp
         rfl
        refine hK.out _ _ ⟨((cell_far (p := ⟨gb141, _, none⟩) NB115_141.out _).trans (((cell_far (p := ⟨gb141, _, none⟩) NB115_141.out _).trans (((cell_far (p := ⟨gb141, _, none⟩) NB115_141.out _).trans (hHeld.1)))))), ((cell_far (p := ⟨gb141, _, none⟩) NB115_141.out _).trans (((cell_far (p := ⟨gb141, _, none⟩) NB115_141.out _).trans (((cell_far (p := ⟨gb141, _, none⟩) NB115_141.out _).trans (hHeld.2.1)))))), ((cell_far (p := ⟨gb141, _, none⟩) NB115_141.out _).trans (((cell_far (p := ⟨gb141, _, none⟩) NB115_141.out _).trans (((cell_far (p := ⟨gb141, _, none⟩) NB115_141.out _).trans (hHeld.2.2.1)))))), ((cell_far (p := ⟨gb141, _, none⟩) NB115_141.out _).trans (((cell_far (p := ⟨gb141, _, none⟩) NB115_141.out _).trans (((cell_far (p := ⟨gb141, _, none⟩) NB115_141.out _).trans (hHeld.2.2.2.1)))))), ((cell_far (p := ⟨gb141, _, none⟩) NB115_141.out _).trans (((cell_far (p := ⟨gb141, _, none⟩) NB115_141.out _).trans (((cell_far (p := ⟨gb141, _, none⟩) NB115_141.out _).trans (hHeld.2.2.2.2.1)))))), ((cell_far (p := ⟨gb141, _, none⟩) NB115_141.out _).trans (((cell_far (p := ⟨gb141, _, none⟩) NB115_141.out _).trans (((cell_far (p := ⟨gb141, _, none⟩) NB115_141.out _).trans (hHeld.2.2.2.2.2))))))⟩ (fun hHeld => ?_)
        clear hK K
        refine pure_ (i := 16) (N := some 101) (v := ?_) (a' := ?_) #[true, true, true, true, true, true, true, true, true, true, true, true, true, true, true, true, true, false] rfl rfl (any_of HT_.out (by kernel_rfl)) (fun _ _ _ h => h) (Or.inl ⟨by rfl, ?_⟩) ?_ ?_
        rotate_left
        ·intro w'
         go_simp
         with_reducible rfl
        rotate_left
        ·simp only [Act.put, List.setIfInBounds_toArray, List.set_cons_zero, List.set_cons_succ, i64_w, i32_w]
         rfl
        refine one_ (i := 17) (N := none) #[true, true, true, true, true, true, true, true, true, true, true, true, true, true, true, true, true, true] rfl rfl (one_of HT_.out (by kernel_rfl)) (by decide) (fun K hK => ?_)
        have hs120 : w116.cell? ⟨gb141, 3, none⟩ = some (.int .i64 x116003_1) := (blk_cell BK141.out 3).trans rfl
        have hfs120 := blk_frozen BK141.out 3
        have hns120_0 := NB115_141.out
        have hns120_1 := NB116_141.out
        have hms120_0 := NB141_115.out
        have hms120_1 := NB141_116.out
        have hs121 : w116.cell? ⟨gb141, 4, none⟩ = some (.int .i64 x116004_1) := (blk_cell BK141.out 4).trans rfl
        have hfs121 := blk_frozen BK141.out 4
        have hns121_0 := NB115_141.out
        have hns121_1 := NB116_141.out
        have hms121_0 := NB141_115.out
        have hms121_1 := NB141_116.out
        have hs122 : w116.cell? ⟨gb141, 5, none⟩ = some (.int .i64 x116005_1) := (blk_cell BK141.out 5).trans rfl
        have hfs122 := blk_frozen BK141.out 5
        have hns122_0 := NB115_141.out
        have hns122_1 := NB116_141.out
        have hms122_0 := NB141_115.out
        have hms122_1 := NB141_116.out
        refine skip_ (w1 := ?_) (by rfl) rfl ?_ ?_
        rotate_left
        ·go_simp
         rfl
        refine hK.out _ _ ⟨((cell_far (p := ⟨gb141, _, none⟩) NB115_141.out _).trans (((cell_far (p := ⟨gb141, _, none⟩) NB115_141.out _).trans (((cell_far (p := ⟨gb141, _, none⟩) NB115_141.out _).trans (hHeld.1)))))), ((cell_far (p := ⟨gb141, _, none⟩) NB115_141.out _).trans (((cell_far (p := ⟨gb141, _, none⟩) NB115_141.out _).trans (((cell_far (p := ⟨gb141, _, none⟩) NB115_141.out _).trans (hHeld.2.1)))))), ((cell_far (p := ⟨gb141, _, none⟩) NB115_141.out _).trans (((cell_far (p := ⟨gb141, _, none⟩) NB115_141.out _).trans (((cell_far (p := ⟨gb141, _, none⟩) NB115_141.out _).trans (hHeld.2.2.1)))))), ((cell_far (p := ⟨gb141, _, none⟩) NB115_141.out _).trans (((cell_far (p := ⟨gb141, _, none⟩) NB115_141.out _).trans (((cell_far (p := ⟨gb141, _, none⟩) NB115_141.out _).trans (hHeld.2.2.2.1)))))), ((cell_far (p := ⟨gb141, _, none⟩) NB115_141.out _).trans (((cell_far (p := ⟨gb141, _, none⟩) NB115_141.out _).trans (((cell_far (p := ⟨gb141, _, none⟩) NB115_141.out _).trans (hHeld.2.2.2.2.1)))))), ((cell_far (p := ⟨gb141, _, none⟩) NB115_141.out _).trans (((cell_far (p := ⟨gb141, _, none⟩) NB115_141.out _).trans (((cell_far (p := ⟨gb141, _, none⟩) NB115_141.out _).trans (hHeld.2.2.2.2.2))))))⟩ (fun hHeld => ?_)
        clear hK K
        refine done_ (done_of HT_.out (by kernel_rfl)) ?_
        have hcz123_0 : w116.cell? ⟨gb141, 0, none⟩ = some (.int .i64 x116000_11) := (blk_cell BK141.out 0).trans rfl
        have hcz123_1 : w116.cell? ⟨gb141, 1, none⟩ = some (.int .i64 x116001_11) := (blk_cell BK141.out 1).trans rfl
        have hcz123_2 : w116.cell? ⟨gb141, 2, none⟩ = some (.int .i64 x116002_11) := (blk_cell BK141.out 2).trans rfl
        have hcz123_3 : w116.cell? ⟨gb141, 3, none⟩ = some (.int .i64 x116003_1) := (blk_cell BK141.out 3).trans rfl
        have hcz123_4 : w116.cell? ⟨gb141, 4, none⟩ = some (.int .i64 x116004_1) := (blk_cell BK141.out 4).trans rfl
        have hcz123_5 : w116.cell? ⟨gb141, 5, none⟩ = some (.int .i64 x116005_1) := (blk_cell BK141.out 5).trans rfl
        have hfz123_0 := blk_frozen BK141.out 0
        have hfz123_1 := blk_frozen BK141.out 1
        have hfz123_2 := blk_frozen BK141.out 2
        have hfz123_3 := blk_frozen BK141.out 3
        have hfz123_4 := blk_frozen BK141.out 4
        have hfz123_5 := blk_frozen BK141.out 5
        try go_wp2_with (first | ((with_reducible refine gate_callee (f := 19) rfl ?_); refine goesL_ (some 104) rfl rfl Try.func19 (by kernel_rfl) rfl #[.agg #[.int .i64 t142, .int .i64 t143, .int .i64 t144, .int .i64 t145, .int .i64 t146, .int .i64 t147]] rfl (by (try simp only [List.map_toArray, List.map_cons, List.map_nil]); first | done | rfl) ?_; (with_reducible refine (R_Volume.calls t142 t143 t144 t145 t146 t147 t148 _ A76.out).mono ?_); rintro e w124 ⟨rfl, hb⟩; refine ⟨_, rfl, ?_⟩; have n0_ := Aside0.mk (Kd.R_below (by (with_reducible repeat (first | apply Kd.R_alloc | apply Kd.R_drewN | apply Kd.R_drew)); exact (Kd.R_mono (Kd.R_far (p := ⟨gb141, 5, none⟩) (Kd.R_far (p := ⟨gb141, 4, none⟩) (Kd.R_far (p := ⟨gb141, 3, none⟩) (Kd.R_far (p := ⟨gb141, 2, none⟩) (Kd.R_far (p := ⟨gb141, 1, none⟩) (Kd.R_far (p := ⟨gb141, 0, none⟩) (Kd.R_types HO_8.out BK141.out (by decide)) (fun _ hk => hk.2) (.int .i64 t142)) (fun _ hk => hk.2) (.int .i64 t143)) (fun _ hk => hk.2) (.int .i64 t144)) (fun _ hk => hk.2) (.int .i64 t145)) (fun _ hk => hk.2) (.int .i64 t146)) (fun _ hk => hk.2) (.int .i64 t147)) (fun _ h_ => h_.1))) hb); have n1_ := Aside0.mk (blk_below (g := gb115) (o := .cells #[.int .i64 x116000_11, .int .i64 x116001_11, .int .i64 x116002_11, .int .i64 x116003_1, .int .i64 x116004_1, .int .i64 x116005_1] 25 (0, 0)) (by (with_reducible repeat (first | refine blk_drewN ?_ _ | refine blk_drew ?_ | refine blk_alloc ?_ _ | refine blk_far ?_ NB115_141.out _)); exact BK115.out) hb); have n2_ := Aside0.mk (blk_below (g := gb116) (o := .cells #[.int .i64 a1_0, .int .i64 a1_1, .int .i64 a1_2, .int .i64 a1_3, .int .i64 a1_4, .int .i64 a1_5] 25 (0, 0)) (by (with_reducible repeat (first | refine blk_drewN ?_ _ | refine blk_drew ?_ | refine blk_alloc ?_ _ | refine blk_far ?_ NB116_141.out _)); exact BK116.out) hb); have n3_ := Aside0.mk (blk_below (g := gb141) (o := .cells #[.int .i64 t142, .int .i64 t143, .int .i64 t144, .int .i64 t145, .int .i64 t146, .int .i64 t147] 25 (0, 0)) (by (with_reducible repeat (first | refine blk_drewN ?_ _ | refine blk_drew ?_ | refine blk_alloc ?_ _)); refine blk_put (cs := #[.int .i64 t142, .int .i64 t143, .int .i64 t144, .int .i64 t145, .int .i64 t146, .int .i64 x116005_1]) ?_ 5 _ rfl; (with_reducible repeat (first | refine blk_drewN ?_ _ | refine blk_drew ?_ | refine blk_alloc ?_ _)); refine blk_put (cs := #[.int .i64 t142, .int .i64 t143, .int .i64 t144, .int .i64 t145, .int .i64 x116004_1, .int .i64 x116005_1]) ?_ 4 _ rfl; (with_reducible repeat (first | refine blk_drewN ?_ _ | refine blk_drew ?_ | refine blk_alloc ?_ _)); refine blk_put (cs := #[.int .i64 t142, .int .i64 t143, .int .i64 t144, .int .i64 x116003_1, .int .i64 x116004_1, .int .i64 x116005_1]) ?_ 3 _ rfl; (with_reducible repeat (first | refine blk_drewN ?_ _ | refine blk_drew ?_ | refine blk_alloc ?_ _)); refine blk_put (cs := #[.int .i64 t142, .int .i64 t143, .int .i64 x116002_11, .int .i64 x116003_1, .int .i64 x116004_1, .int .i64 x116005_1]) ?_ 2 _ rfl; (with_reducible repeat (first | refine blk_drewN ?_ _ | refine blk_drew ?_ | refine blk_alloc ?_ _)); refine blk_put (cs := #[.int .i64 t142, .int .i64 x116001_11, .int .i64 x116002_11, .int .i64 x116003_1, .int .i64 x116004_1, .int .i64 x116005_1]) ?_ 1 _ rfl; (with_reducible repeat (first | refine blk_drewN ?_ _ | refine blk_drew ?_ | refine blk_alloc ?_ _)); refine blk_put (cs := #[.int .i64 x116000_11, .int .i64 x116001_11, .int .i64 x116002_11, .int .i64 x116003_1, .int .i64 x116004_1, .int .i64 x116005_1]) ?_ 0 _ rfl; (with_reducible repeat (first | refine blk_drewN ?_ _ | refine blk_drew ?_ | refine blk_alloc ?_ _)); exact BK141.out) hb); have n4_ := Aside0.mk (below_step (by repeat (first | (with_reducible first | exact HB.out | apply below_alloc | apply pw_below_drewN | apply below_drew1 | refine below_set ?_ GE115.out | refine below_set ?_ GE116.out | refine below_set ?_ GE141.out) | exact HB.out)) hb); clear HO_8; clear BK115; clear BK116; clear BK141; clear HB; have HO_8 := n0_; have BK115 := n1_; have BK116 := n2_; have BK141 := n3_; have HB := n4_; clear n0_ n1_ n2_ n3_ n4_; (try clear hb); (try clear hb2); (try clear hk); (try clear hi); have hcz125_0 : w124.cell? ⟨gb115, 0, none⟩ = some (.int .i64 x116000_11) := (blk_cell BK115.out 0).trans rfl; have hcz125_1 : w124.cell? ⟨gb115, 1, none⟩ = some (.int .i64 x116001_11) := (blk_cell BK115.out 1).trans rfl; have hcz125_2 : w124.cell? ⟨gb115, 2, none⟩ = some (.int .i64 x116002_11) := (blk_cell BK115.out 2).trans rfl; have hcz125_3 : w124.cell? ⟨gb115, 3, none⟩ = some (.int .i64 x116003_1) := (blk_cell BK115.out 3).trans rfl; have hcz125_4 : w124.cell? ⟨gb115, 4, none⟩ = some (.int .i64 x116004_1) := (blk_cell BK115.out 4).trans rfl; have hcz125_5 : w124.cell? ⟨gb115, 5, none⟩ = some (.int .i64 x116005_1) := (blk_cell BK115.out 5).trans rfl; have hfz125_0 := blk_frozen BK115.out 0; have hfz125_1 := blk_frozen BK115.out 1; have hfz125_2 := blk_frozen BK115.out 2; have hfz125_3 := blk_frozen BK115.out 3; have hfz125_4 := blk_frozen BK115.out 4; have hfz125_5 := blk_frozen BK115.out 5) | ((with_reducible refine gate_callee (f := 49) rfl ?_); refine goesL_ (some 120) rfl rfl Try.func49 (by kernel_rfl) rfl #[.agg #[.int .i64 x116003_1, .int .i64 x116004_1, .int .i64 x116005_1], .int .i64 x10_1, .int .i64 t121] rfl (by (try simp only [List.map_toArray, List.map_cons, List.map_nil]); first | done | rfl) ?_; (with_reducible refine (R_Put.calls x116003_1 x116004_1 x116005_1 x10_1 t121 t155 t156 t157 _ A104.out).mono ?_); rintro e w126 ⟨rfl, hb⟩; refine ⟨_, rfl, ?_⟩; have n0_ := Aside0.mk (KT.rbL HO_8.out hb); have n1_ := Aside0.mk (KT.bL BK115.out hb); have n2_ := Aside0.mk (KT.bL BK116.out hb); have n3_ := Aside0.mk (KT.bL BK141.out hb); have n4_ := Aside0.mk (below_step (by repeat (first | (with_reducible first | exact HB.out | apply below_alloc | apply pw_below_drewN | apply below_drew1 | refine below_set ?_ GE115.out | refine below_set ?_ GE116.out | refine below_set ?_ GE141.out) | exact HB.out)) hb); clear HO_8; clear BK115; clear BK116; clear BK141; clear HB; have HO_8 := n0_; have BK115 := n1_; have BK116 := n2_; have BK141 := n3_; have HB := n4_; clear n0_ n1_ n2_ n3_ n4_; (try clear hb); (try clear hb2); (try clear hk); (try clear hi); have hcz127_0 : w126.cell? ⟨gb115, 0, none⟩ = some (.int .i64 x116000_11) := (blk_cell BK115.out 0).trans rfl; have hcz127_1 : w126.cell? ⟨gb115, 1, none⟩ = some (.int .i64 x116001_11) := (blk_cell BK115.out 1).trans rfl; have hcz127_2 : w126.cell? ⟨gb115, 2, none⟩ = some (.int .i64 x116002_11) := (blk_cell BK115.out 2).trans rfl; have hcz127_3 : w126.cell? ⟨gb115, 3, none⟩ = some (.int .i64 x116003_1) := (blk_cell BK115.out 3).trans rfl; have hcz127_4 : w126.cell? ⟨gb115, 4, none⟩ = some (.int .i64 x116004_1) := (blk_cell BK115.out 4).trans rfl; have hcz127_5 : w126.cell? ⟨gb115, 5, none⟩ = some (.int .i64 x116005_1) := (blk_cell BK115.out 5).trans rfl; have hfz127_0 := blk_frozen BK115.out 0; have hfz127_1 := blk_frozen BK115.out 1; have hfz127_2 := blk_frozen BK115.out 2; have hfz127_3 := blk_frozen BK115.out 3; have hfz127_4 := blk_frozen BK115.out 4; have hfz127_5 := blk_frozen BK115.out 5))
        go_roundg kj11
        case measure => have := HK1.out; have := HJ11.out; omega
        case rel => exact ⟨(x8_11), (wrap64 (x9_11 + t148)), (wrap64 (x10_1 + 1)), (x116000_11), (x116001_11), (x116002_11), (t155), (t156), (t157), (by first | rfl | (simp; done) | (simp [*]; done)), (by first | rfl | (simp; done) | (simp [*]; done)), H', ⟨by have := HK1.out; have := HJ11.out; omega⟩, ⟨by (with_reducible repeat (first | apply Kd.R_alloc | apply Kd.R_drewN | apply Kd.R_drew)); exact Kd.R_mono (Kd.R_far (p := ⟨gb115, 5, none⟩) (Kd.R_far (p := ⟨gb115, 4, none⟩) (Kd.R_far (p := ⟨gb115, 3, none⟩) (Kd.R_types HO_8.out BK115.out (by decide)) (fun _ hk => hk.2) (.int .i64 t155)) (fun _ hk => hk.2) (.int .i64 t156)) (fun _ hk => hk.2) (.int .i64 t157)) (fun _ hk => trivial)⟩, ⟨by (with_reducible repeat (first | refine blk_drewN ?_ _ | refine blk_drew ?_ | refine blk_alloc ?_ _)); refine blk_put (cs := #[.int .i64 x116000_11, .int .i64 x116001_11, .int .i64 x116002_11, .int .i64 t155, .int .i64 t156, .int .i64 x116005_1]) ?_ 5 _ rfl; (with_reducible repeat (first | refine blk_drewN ?_ _ | refine blk_drew ?_ | refine blk_alloc ?_ _)); refine blk_put (cs := #[.int .i64 x116000_11, .int .i64 x116001_11, .int .i64 x116002_11, .int .i64 t155, .int .i64 x116004_1, .int .i64 x116005_1]) ?_ 4 _ rfl; (with_reducible repeat (first | refine blk_drewN ?_ _ | refine blk_drew ?_ | refine blk_alloc ?_ _)); refine blk_put (cs := #[.int .i64 x116000_11, .int .i64 x116001_11, .int .i64 x116002_11, .int .i64 x116003_1, .int .i64 x116004_1, .int .i64 x116005_1]) ?_ 3 _ rfl; (with_reducible repeat (first | refine blk_drewN ?_ _ | refine blk_drew ?_ | refine blk_alloc ?_ _)); exact BK115.out⟩, ⟨by (with_reducible repeat (first | refine blk_drewN ?_ _ | refine blk_drew ?_ | refine blk_alloc ?_ _ | refine blk_far ?_ NB116_115.out _)); exact BK116.out⟩, ⟨by repeat (first | (with_reducible first | exact HB.out | apply below_alloc | apply pw_below_drewN | apply below_drew1 | refine below_set ?_ GE115.out | refine below_set ?_ GE116.out | refine below_set ?_ GE141.out) | exact HB.out)⟩⟩
      ·rw [if_neg c72] at H
       have c72b0 : decide (0 < (wrap64 (t140 - t121))) = false := decide_eq_false c72
       clear c72
       have H' := Aside0.mk H
       clear H
       have hnb128 := NB115_116.out
       have hnc128 := NB116_115.out
       have hcz129_0 : wc.cell? ⟨gb115, 0, none⟩ = some (.int .i64 x116000_11) := (blk_cell BK115.out 0).trans rfl
       have hcz129_1 : wc.cell? ⟨gb115, 1, none⟩ = some (.int .i64 x116001_11) := (blk_cell BK115.out 1).trans rfl
       have hcz129_2 : wc.cell? ⟨gb115, 2, none⟩ = some (.int .i64 x116002_11) := (blk_cell BK115.out 2).trans rfl
       have hcz129_3 : wc.cell? ⟨gb115, 3, none⟩ = some (.int .i64 x116003_1) := (blk_cell BK115.out 3).trans rfl
       have hcz129_4 : wc.cell? ⟨gb115, 4, none⟩ = some (.int .i64 x116004_1) := (blk_cell BK115.out 4).trans rfl
       have hcz129_5 : wc.cell? ⟨gb115, 5, none⟩ = some (.int .i64 x116005_1) := (blk_cell BK115.out 5).trans rfl
       have hfz129_0 := blk_frozen BK115.out 0
       have hfz129_1 := blk_frozen BK115.out 1
       have hfz129_2 := blk_frozen BK115.out 2
       have hfz129_3 := blk_frozen BK115.out 3
       have hfz129_4 := blk_frozen BK115.out 4
       have hfz129_5 := blk_frozen BK115.out 5
       go_wp2_with (first | ((with_reducible refine gate_callee (f := 41) rfl ?_); refine goesL_ (some 80) rfl rfl Try.func41 (by kernel_rfl) rfl #[.agg #[.int .i64 x116003_1, .int .i64 x116004_1, .int .i64 x116005_1], .int .i64 x10_1] rfl (by (try simp only [List.map_toArray, List.map_cons, List.map_nil]); first | done | rfl) ?_; (with_reducible refine (R_Get.calls x116003_1 x116004_1 x116005_1 x10_1 t140 _ A71.out).mono ?_); rintro e w130 ⟨rfl, hb⟩; refine ⟨_, rfl, ?_⟩; have n0_ := Aside0.mk (KT.rbL HO_8.out hb); have n1_ := Aside0.mk (KT.bL BK115.out hb); have n2_ := Aside0.mk (KT.bL BK116.out hb); have n3_ := Aside0.mk (below_step (by repeat (first | (with_reducible first | exact HB.out | apply below_alloc | apply pw_below_drewN | apply below_drew1 | refine below_set ?_ GE115.out | refine below_set ?_ GE116.out) | exact HB.out)) hb); clear HO_8; clear BK115; clear BK116; clear HB; have HO_8 := n0_; have BK115 := n1_; have BK116 := n2_; have HB := n3_; clear n0_ n1_ n2_ n3_; (try clear hb); (try clear hb2); (try clear hk); (try clear hi)))
       go_roundg kj11
       case measure => have := HK1.out; have := HJ11.out; omega
       case rel => exact ⟨(x8_11), (x9_11), (wrap64 (x10_1 + 1)), (x116000_11), (x116001_11), (x116002_11), (x116003_1), (x116004_1), (x116005_1), (by first | rfl | (simp; done) | (simp [*]; done)), (by first | rfl | (simp; done) | (simp [*]; done)), H', ⟨by have := HK1.out; have := HJ11.out; omega⟩, ⟨KT.rL HO_8.out⟩, ⟨KT.kL BK115.out⟩, ⟨KT.kL BK116.out⟩, ⟨by repeat (first | (with_reducible first | exact HB.out | apply below_alloc | apply pw_below_drewN | apply below_drew1 | refine below_set ?_ GE115.out | refine below_set ?_ GE116.out) | exact HB.out)⟩⟩
   ·rw [if_neg c8] at H
    have c8b0 : decide (x10_1 < 3) = false := decide_eq_false c8
    clear c8
    simp only [Option.some.injEq, Prod.mk.injEq] at H
    obtain ⟨rfl, rfl⟩ := H
    go_wp2
    go_ret2
    exact ⟨_, by first | rfl | (simp [errW_none, errW_some] <;> rfl) | (simp [*, errW_none, errW_some] <;> rfl), by (with_reducible repeat (first | apply Kd.R_alloc | apply Kd.R_drewN | apply Kd.R_drew)); exact HO_8.out, by repeat (first | (with_reducible first | exact HB.out | apply below_alloc | apply pw_below_drewN | apply below_drew1 | refine below_set ?_ GE115.out | refine below_set ?_ GE116.out) | exact HB.out)⟩

end Go.Proofs.Ytdfcphfoccgopaa.QT
