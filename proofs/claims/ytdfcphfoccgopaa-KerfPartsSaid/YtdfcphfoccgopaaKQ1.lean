/- The kerf seat: the law KerfParts, walked by hand. -/
import Derived.Test.YtdfcphfoccgopaaKQa
namespace Go.Proofs.Ytdfcphfoccgopaa.QK
open Go.Sx Go.RowKit Go.Proofs.YtdfcphfoccgopaaW.PrintWords Go.Proofs.YtdfcphfoccgopaaW.PrintLast Go.Proofs.YtdfcphfoccgopaaW.PrintMore
set_option linter.unusedVariables false
set_option linter.unusedSimpArgs false
attribute [local go_sem] max2_int min2_int max_two min_two
attribute [local go_sem high] eqA23 eqA25
/-- A world behind draws and new blocks. -/
class Lift (W W' : World) : Prop where
  h : Below W.heap.size W W'
instance (W : World) : Lift W W := ⟨Below.refl _ _⟩
instance (W W' : World) (n : Nat) [i : Lift W W'] : Lift W (W'.drewN n) := ⟨pw_below_drewN i.h n⟩
instance (W W' : World) [i : Lift W W'] : Lift W W'.drew := ⟨below_drew i.h⟩
instance (W W' : World) (x : Obj) [i : Lift W W'] : Lift W (W'.alloc x) := ⟨below_alloc i.h x⟩
theorem kL {W W' : World} [i : Lift W W'] {g : Nat} {o : Obj} (h : W.heap[g]? = some o) : W'.heap[g]? = some o := blk_below h i.h
theorem bL {W W' W2 : World} [i : Lift W W'] {g : Nat} {o : Obj} (h : W.heap[g]? = some o) (hb : Below W'.heap.size W' W2) : W2.heap[g]? = some o := blk_below (kL h) hb
theorem gL {W W' W2 : World} [i : Lift W W'] {g : Nat} {o : Obj} {r : Option Nat} (h : W.heap[g]? = some o) (hg : W'.grownBy W2 r) (hn : some g ≠ r) : W2.heap[g]? = some o := blk_grown (kL h) hg hn
theorem fL {W W' : World} [i : Lift W W'] {g : Nat} {o : Obj} (h : W.heap[g]? = some o) : ∀ k, W'.heap.size ≤ k → k ≠ g := Kd.freshB (kL h)
theorem lL {W W' : World} [i : Lift W W'] {g : Nat} {o : Obj} (h : W.heap[g]? = some o) : g < W'.heap.size := blk_lt (kL h)
theorem rL {S : Type} {d : Kd S} {W W' : World} [i : Lift W W'] {e base : Nat} {ok : Nat → Prop} {v : Value} {l : List S} (h : d.R e W base ok v l) : d.R e W' base ok v l := Kd.R_below h i.h
theorem rbL {S : Type} {d : Kd S} {W W' W2 : World} [i : Lift W W'] {e base : Nat} {ok : Nat → Prop} {v : Value} {l : List S} (h : d.R e W base ok v l) (hb : Below W'.heap.size W' W2) : d.R e W2 base ok v l := Kd.R_below (rL h) hb
theorem blL {w W W' : World} [i : Lift W W'] (h : Below w.heap.size w W) : Below w.heap.size w W' := below_step h i.h
theorem bbL {w W W' W2 : World} [i : Lift W W'] (h : Below w.heap.size w W) (hb : Below W'.heap.size W' W2) : Below w.heap.size w W2 := below_step (blL h) hb
theorem st6_put {w : World} {g : Nat} {t : TypeId} {a b c d e f : Value} (h : w.heap[g]? = some (.cells #[a, b, c, d, e, f] t (0, 0))) (u0 u1 u2 u3 u4 u5 : Value) :
    ((((((w.setCell ⟨g, 0, none⟩ u0).setCell ⟨g, 1, none⟩ u1).setCell ⟨g, 2, none⟩ u2).setCell ⟨g, 3, none⟩ u3).setCell ⟨g, 4, none⟩ u4).setCell ⟨g, 5, none⟩ u5).heap[g]? = some (.cells #[u0, u1, u2, u3, u4, u5] t (0, 0)) :=
  blk_put (blk_put (blk_put (blk_put (blk_put (blk_put h 0 u0 rfl) 1 u1 rfl) 2 u2 rfl) 3 u3 rfl) 4 u4 rfl) 5 u5 rfl
theorem st6_far {w : World} {g g' : Nat} {t : TypeId} {cs : Array Value} (h : w.heap[g']? = some (.cells cs t (0, 0))) (hn : g' ≠ g) (u0 u1 u2 u3 u4 u5 : Value) :
    ((((((w.setCell ⟨g, 0, none⟩ u0).setCell ⟨g, 1, none⟩ u1).setCell ⟨g, 2, none⟩ u2).setCell ⟨g, 3, none⟩ u3).setCell ⟨g, 4, none⟩ u4).setCell ⟨g, 5, none⟩ u5).heap[g']? = some (.cells cs t (0, 0)) :=
  blk_far (p := ⟨g, 5, none⟩) (blk_far (p := ⟨g, 4, none⟩) (blk_far (p := ⟨g, 3, none⟩) (blk_far (p := ⟨g, 2, none⟩) (blk_far (p := ⟨g, 1, none⟩) (blk_far (p := ⟨g, 0, none⟩) h hn u0) hn u1) hn u2) hn u3) hn u4) hn u5
theorem st6_R {S : Type} {k : Kd S} {e base : Nat} {w : World} {ok : Nat → Prop} {v : Value} {l : List S} {g : Nat} (h : k.R e w base ok v l) (hn : ∀ j, ok j → j ≠ g) (u0 u1 u2 u3 u4 u5 : Value) :
    k.R e ((((((w.setCell ⟨g, 0, none⟩ u0).setCell ⟨g, 1, none⟩ u1).setCell ⟨g, 2, none⟩ u2).setCell ⟨g, 3, none⟩ u3).setCell ⟨g, 4, none⟩ u4).setCell ⟨g, 5, none⟩ u5) base ok v l :=
  Kd.R_far (p := ⟨g, 5, none⟩) (Kd.R_far (p := ⟨g, 4, none⟩) (Kd.R_far (p := ⟨g, 3, none⟩) (Kd.R_far (p := ⟨g, 2, none⟩) (Kd.R_far (p := ⟨g, 1, none⟩) (Kd.R_far (p := ⟨g, 0, none⟩) h hn u0) hn u1) hn u2) hn u3) hn u4) hn u5
theorem st6_B {w0 w : World} {g : Nat} (h : Below w0.heap.size w0 w) (hn : w0.heap.size ≤ g) (u0 u1 u2 u3 u4 u5 : Value) :
    Below w0.heap.size w0 ((((((w.setCell ⟨g, 0, none⟩ u0).setCell ⟨g, 1, none⟩ u1).setCell ⟨g, 2, none⟩ u2).setCell ⟨g, 3, none⟩ u3).setCell ⟨g, 4, none⟩ u4).setCell ⟨g, 5, none⟩ u5) :=
  below_set (below_set (below_set (below_set (below_set (below_set h hn) hn) hn) hn) hn) hn
section
variable {x0 y0 z0 x1 y1 z1 ax t q : Int} {n : Nat}
theorem awkC (w : World) : Calls Try.prog 12 #[] w fun e w' => e = .returned (.bool true) ∧ Below w.heap.size w w' := L_awake.calls true w rfl
theorem sliC (o : Ok x0 y0 z0 x1 y1 z1 ax t q n) (hE : cntE x0 y0 z0 x1 y1 z1 ax t q = 0) (hN : cntN x0 y0 z0 x1 y1 z1 ax t q = n) (w : World) :
    Calls Try.prog 28 #[.agg #[.int .i64 x0, .int .i64 y0, .int .i64 z0, .int .i64 x1, .int .i64 y1, .int .i64 z1], .int .i64 ax, .int .i64 t, .int .i64 q] w fun e w' => ∃ A c, e = .returned (.tuple #[.slice A n c, .agg #[.int .i64 (rs x0 y0 z0 x1 y1 z1 ax t q n (pX x0 ax (beg x0 y0 z0 ax t q n))), .int .i64 (rs x0 y0 z0 x1 y1 z1 ax t q n (pY y0 ax (beg x0 y0 z0 ax t q n))), .int .i64 (rs x0 y0 z0 x1 y1 z1 ax t q n (pZ z0 ax (beg x0 y0 z0 ax t q n))), .int .i64 (rs x0 y0 z0 x1 y1 z1 ax t q n x1), .int .i64 (rs x0 y0 z0 x1 y1 z1 ax t q n y1), .int .i64 (rs x0 y0 z0 x1 y1 z1 ax t q n z1)], .int .i64 0]) ∧ Kd.C k25 w' A n (slcs x0 y0 z0 x1 y1 z1 ax t q n) ∧ Below w.heap.size w w' := by
  refine (K_Slices.calls 1500 x0 y0 z0 x1 y1 z1 ax t q _ _ _ _ _ _ _ _ w (kslices o hE hN (by omega))).mono ?_
  rintro e w' ⟨v0, rfl, hR, hB⟩
  obtain ⟨A, c, rfl⟩ := Kd.R_slice hR
  have hC := (Kd.R_reads' hR).2.2
  rw [slcs_len] at hC ⊢
  exact ⟨A, c, rfl, hC, hB⟩
theorem cutC (o : Ok x0 y0 z0 x1 y1 z1 ax t q n) (hE : cntE x0 y0 z0 x1 y1 z1 ax t q = 0) (hN : cntN x0 y0 z0 x1 y1 z1 ax t q = n) (m : Nat) (hm : m = cnum x0 y0 z0 x1 y1 z1 ax t q n) (w : World) :
    Calls Try.prog 29 #[.agg #[.int .i64 x0, .int .i64 y0, .int .i64 z0, .int .i64 x1, .int .i64 y1, .int .i64 z1], .int .i64 ax, .int .i64 t, .int .i64 q] w fun e w' => ∃ A c, e = .returned (.tuple #[.slice A m c, .int .i64 0]) ∧ Kd.C k33 w' A m (cuts33 x0 y0 z0 ax t q m) ∧ Below w.heap.size w w' := by
  subst hm
  refine (K_Cuts.calls 1500 x0 y0 z0 x1 y1 z1 ax t q _ _ w (kcuts o hE hN (by omega))).mono ?_
  rintro e w' ⟨v0, rfl, hR, hB⟩
  obtain ⟨A, c, rfl⟩ := Kd.R_slice hR
  have hC := (Kd.R_reads' hR).2.2
  rw [cuts33_len] at hC ⊢
  exact ⟨A, c, rfl, hC, hB⟩
theorem sliE (hE : ¬ cntE x0 y0 z0 x1 y1 z1 ax t q = 0) (w : World) :
    Calls Try.prog 28 #[.agg #[.int .i64 x0, .int .i64 y0, .int .i64 z0, .int .i64 x1, .int .i64 y1, .int .i64 z1], .int .i64 ax, .int .i64 t, .int .i64 q] w fun e w' => ∃ A c, e = .returned (.tuple #[.slice A 0 c, .agg #[.int .i64 0, .int .i64 0, .int .i64 0, .int .i64 0, .int .i64 0, .int .i64 0], .int .i64 (cntE x0 y0 z0 x1 y1 z1 ax t q)]) ∧ Below w.heap.size w w' := by
  have h1 : K_Slices.f 1500 x0 y0 z0 x1 y1 z1 ax t q = some ([], 0, 0, 0, 0, 0, 0, cntE x0 y0 z0 x1 y1 z1 ax t q) := by
    unfold K_Slices.f K_count.f
    simp [cnt0, cnt1, hE]
  refine (K_Slices.calls 1500 x0 y0 z0 x1 y1 z1 ax t q _ _ _ _ _ _ _ _ w h1).mono ?_
  rintro e w' ⟨v0, rfl, hR, hB⟩
  obtain ⟨A, c, rfl⟩ := Kd.R_slice hR
  exact ⟨A, c, rfl, hB⟩
theorem cutE (hE : ¬ cntE x0 y0 z0 x1 y1 z1 ax t q = 0) (w : World) :
    Calls Try.prog 29 #[.agg #[.int .i64 x0, .int .i64 y0, .int .i64 z0, .int .i64 x1, .int .i64 y1, .int .i64 z1], .int .i64 ax, .int .i64 t, .int .i64 q] w fun e w' => ∃ A c, e = .returned (.tuple #[.slice A 0 c, .int .i64 (cntE x0 y0 z0 x1 y1 z1 ax t q)]) ∧ Below w.heap.size w w' := by
  have h1 : K_Slices.f 1500 x0 y0 z0 x1 y1 z1 ax t q = some ([], 0, 0, 0, 0, 0, 0, cntE x0 y0 z0 x1 y1 z1 ax t q) := by
    unfold K_Slices.f K_count.f
    simp [cnt0, cnt1, hE]
  have h2 : K_Cuts.f 1500 x0 y0 z0 x1 y1 z1 ax t q = some ([], cntE x0 y0 z0 x1 y1 z1 ax t q) := by
    unfold K_Cuts.f
    rw [h1]
    simp [hE]
  refine (K_Cuts.calls 1500 x0 y0 z0 x1 y1 z1 ax t q _ _ w h2).mono ?_
  rintro e w' ⟨v0, rfl, hR, hB⟩
  obtain ⟨A, c, rfl⟩ := Kd.R_slice hR
  exact ⟨A, c, rfl, hB⟩
end
section
variable {x0 y0 z0 x1 y1 z1 ax t q : Int} {n : Nat}
theorem pX2 (x ax a b : Int) : pX (pX x ax a) ax b = pX x ax b := by unfold pX; split <;> rfl
theorem pY2 (x ax a b : Int) : pY (pY x ax a) ax b = pY x ax b := by unfold pY; split <;> rfl
theorem pZ2 (x ax a b : Int) : pZ (pZ x ax a) ax b = pZ x ax b := by unfold pZ; split <;> rfl
theorem beg_lt (o : Ok x0 y0 z0 x1 y1 z1 ax t q n) {i : Nat} (hi : i < cnum x0 y0 z0 x1 y1 z1 ax t q n) : beg x0 y0 z0 ax t q i + t + q < gx x1 y1 z1 ax := by
  have hle := cnum_le (x0 := x0) (y0 := y0) (z0 := z0) (x1 := x1) (y1 := y1) (z1 := z1) (ax := ax) (t := t) (q := q) (n := n)
  have ht := o.ht
  have hq := o.hq
  have hup := o.up
  rcases (cnum_iff o (j := i) (by omega)).2 hi with h | h
  · have e : (n : Int) * (t + q) = ((n : Int) - (i + 2)) * (t + q) + (i + 2) * (t + q) := by grind
    have hp : 0 ≤ ((n : Int) - (i + 2)) * (t + q) := Int.mul_nonneg (by omega) (by omega)
    have e2 : ((i : Int) + 2) * (t + q) = (i : Int) * (t + q) + 2 * (t + q) := by grind
    unfold beg
    omega
  · unfold beg at h ⊢
    have e : (n : Int) * (t + q) = ((n : Int) - (i + 1)) * (t + q) + (i + 1) * (t + q) := by grind
    have hp : 0 ≤ ((n : Int) - (i + 1)) * (t + q) := Int.mul_nonneg (by omega) (by omega)
    have e2 : ((i : Int) + 1) * (t + q) = (i : Int) * (t + q) + (t + q) := by grind
    omega
theorem chk_left (hB : chkB x0 y0 z0 x1 y1 z1 = 0) (o : Ok x0 y0 z0 x1 y1 z1 ax t q n) {i : Nat} (hi : i < cnum x0 y0 z0 x1 y1 z1 ax t q n) : chkC (pX x0 ax (beg x0 y0 z0 ax t q i)) (pY y0 ax (beg x0 y0 z0 ax t q i)) (pZ z0 ax (beg x0 y0 z0 ax t q i)) x1 y1 z1 ax (beg x0 y0 z0 ax t q i + t) q = 0 := by
  have hlt := beg_lt o hi
  have ht := o.ht
  have hq := o.hq
  have hle := cnum_le (x0 := x0) (y0 := y0) (z0 := z0) (x1 := x1) (y1 := y1) (z1 := z1) (ax := ax) (t := t) (q := q) (n := n)
  have hb := o.bd (j := i) (by omega)
  obtain ⟨h1, h2⟩ := chkB_ok.1 hB
  have hin : inB (pX x0 ax (beg x0 y0 z0 ax t q i)) (pY y0 ax (beg x0 y0 z0 ax t q i)) (pZ z0 ax (beg x0 y0 z0 ax t q i)) x1 y1 z1 = true := by
    unfold inB in3 inC at h1 ⊢
    simp only [Bool.and_eq_true, decide_eq_true_eq] at h1 ⊢
    have hhi := o.hi
    unfold pX pY pZ
    refine ⟨⟨⟨?_, ?_⟩, ?_⟩, ⟨?_, ?_⟩, ?_⟩ <;> (try split) <;> omega
  generalize hbeg : beg x0 y0 z0 ax t q i = b at *
  have hlt2 : (pX x0 ax b) < x1 ∧ (pY y0 ax b) < y1 ∧ (pZ z0 ax b) < z1 := by
    unfold gx at hlt
    unfold pX pY pZ
    rcases ax3 o.ha with rfl | rfl | rfl <;> simp at hlt ⊢ <;> omega
  have hc : chkB (pX x0 ax b) (pY y0 ax b) (pZ z0 ax b) x1 y1 z1 = 0 := chkB_ok.2 ⟨hin, hlt2⟩
  have hg : gx (pX x0 ax b) (pY y0 ax b) (pZ z0 ax b) ax = b := by
    rcases ax3 o.ha with rfl | rfl | rfl <;> simp [gx, pX, pY, pZ]
  unfold chkC
  rw [if_pos hc, if_pos o.ha, if_pos (by simp [inK]; omega), if_pos (by rw [hg]; omega)]
theorem splC (hB : chkB x0 y0 z0 x1 y1 z1 = 0) (o : Ok x0 y0 z0 x1 y1 z1 ax t q n) {i : Nat} (hi : i < cnum x0 y0 z0 x1 y1 z1 ax t q n) (w : World) :
    Calls Try.prog 14 #[.agg #[.int .i64 (pX x0 ax (beg x0 y0 z0 ax t q i)), .int .i64 (pY y0 ax (beg x0 y0 z0 ax t q i)), .int .i64 (pZ z0 ax (beg x0 y0 z0 ax t q i)), .int .i64 x1, .int .i64 y1, .int .i64 z1], .agg #[.int .i64 ax, .int .i64 (beg x0 y0 z0 ax t q i + t), .int .i64 q]] w fun e w' => e = .returned (.tuple #[.agg #[.int .i64 (pX x0 ax (beg x0 y0 z0 ax t q i)), .int .i64 (pY y0 ax (beg x0 y0 z0 ax t q i)), .int .i64 (pZ z0 ax (beg x0 y0 z0 ax t q i)), .int .i64 (pX x1 ax (beg x0 y0 z0 ax t q i + t)), .int .i64 (pY y1 ax (beg x0 y0 z0 ax t q i + t)), .int .i64 (pZ z1 ax (beg x0 y0 z0 ax t q i + t))], .agg #[.int .i64 (spl6 (pX x0 ax (beg x0 y0 z0 ax t q i)) (pY y0 ax (beg x0 y0 z0 ax t q i)) (pZ z0 ax (beg x0 y0 z0 ax t q i)) x1 y1 z1 ax (beg x0 y0 z0 ax t q i + t) q), .int .i64 (spl7 (pX x0 ax (beg x0 y0 z0 ax t q i)) (pY y0 ax (beg x0 y0 z0 ax t q i)) (pZ z0 ax (beg x0 y0 z0 ax t q i)) x1 y1 z1 ax (beg x0 y0 z0 ax t q i + t) q), .int .i64 (spl8 (pX x0 ax (beg x0 y0 z0 ax t q i)) (pY y0 ax (beg x0 y0 z0 ax t q i)) (pZ z0 ax (beg x0 y0 z0 ax t q i)) x1 y1 z1 ax (beg x0 y0 z0 ax t q i + t) q), .int .i64 (spl9 (pX x0 ax (beg x0 y0 z0 ax t q i)) (pY y0 ax (beg x0 y0 z0 ax t q i)) (pZ z0 ax (beg x0 y0 z0 ax t q i)) x1 y1 z1 ax (beg x0 y0 z0 ax t q i + t) q), .int .i64 (spl10 (pX x0 ax (beg x0 y0 z0 ax t q i)) (pY y0 ax (beg x0 y0 z0 ax t q i)) (pZ z0 ax (beg x0 y0 z0 ax t q i)) x1 y1 z1 ax (beg x0 y0 z0 ax t q i + t) q), .int .i64 (spl11 (pX x0 ax (beg x0 y0 z0 ax t q i)) (pY y0 ax (beg x0 y0 z0 ax t q i)) (pZ z0 ax (beg x0 y0 z0 ax t q i)) x1 y1 z1 ax (beg x0 y0 z0 ax t q i + t) q)], .agg #[.int .i64 (pX x0 ax (beg x0 y0 z0 ax t q (i + 1))), .int .i64 (pY y0 ax (beg x0 y0 z0 ax t q (i + 1))), .int .i64 (pZ z0 ax (beg x0 y0 z0 ax t q (i + 1))), .int .i64 x1, .int .i64 y1, .int .i64 z1], .int .i64 0]) ∧ Below w.heap.size w w' := by
  have hc := chk_left hB o hi
  have h := gv (f := 14) ⟨[iv 6, iv 3], [iv 6, iv 6, iv 6, i1], none, none, none⟩ c14 rfl rfl rfl (by kernel_rfl) [.int (pX x0 ax (beg x0 y0 z0 ax t q i)), .int (pY y0 ax (beg x0 y0 z0 ax t q i)), .int (pZ z0 ax (beg x0 y0 z0 ax t q i)), .int x1, .int y1, .int z1, .int ax, .int (beg x0 y0 z0 ax t q i + t), .int q] w ⟨⟨_, rfl⟩, ⟨_, rfl⟩, ⟨_, rfl⟩, ⟨_, rfl⟩, ⟨_, rfl⟩, ⟨_, rfl⟩, ⟨_, rfl⟩, ⟨_, rfl⟩, ⟨_, rfl⟩, trivial⟩ rfl
  refine h.mono ?_
  rintro e w' ⟨rfl, hb⟩
  refine ⟨?_, hb⟩
  have e0 : spl0 (pX x0 ax (beg x0 y0 z0 ax t q i)) (pY y0 ax (beg x0 y0 z0 ax t q i)) (pZ z0 ax (beg x0 y0 z0 ax t q i)) x1 y1 z1 ax (beg x0 y0 z0 ax t q i + t) q = pX x0 ax (beg x0 y0 z0 ax t q i) := if_pos hc
  have e1 : spl1 (pX x0 ax (beg x0 y0 z0 ax t q i)) (pY y0 ax (beg x0 y0 z0 ax t q i)) (pZ z0 ax (beg x0 y0 z0 ax t q i)) x1 y1 z1 ax (beg x0 y0 z0 ax t q i + t) q = pY y0 ax (beg x0 y0 z0 ax t q i) := if_pos hc
  have e2 : spl2 (pX x0 ax (beg x0 y0 z0 ax t q i)) (pY y0 ax (beg x0 y0 z0 ax t q i)) (pZ z0 ax (beg x0 y0 z0 ax t q i)) x1 y1 z1 ax (beg x0 y0 z0 ax t q i + t) q = pZ z0 ax (beg x0 y0 z0 ax t q i) := if_pos hc
  have e3 : spl3 (pX x0 ax (beg x0 y0 z0 ax t q i)) (pY y0 ax (beg x0 y0 z0 ax t q i)) (pZ z0 ax (beg x0 y0 z0 ax t q i)) x1 y1 z1 ax (beg x0 y0 z0 ax t q i + t) q = pX x1 ax (beg x0 y0 z0 ax t q i + t) := if_pos hc
  have e4 : spl4 (pX x0 ax (beg x0 y0 z0 ax t q i)) (pY y0 ax (beg x0 y0 z0 ax t q i)) (pZ z0 ax (beg x0 y0 z0 ax t q i)) x1 y1 z1 ax (beg x0 y0 z0 ax t q i + t) q = pY y1 ax (beg x0 y0 z0 ax t q i + t) := if_pos hc
  have e5 : spl5 (pX x0 ax (beg x0 y0 z0 ax t q i)) (pY y0 ax (beg x0 y0 z0 ax t q i)) (pZ z0 ax (beg x0 y0 z0 ax t q i)) x1 y1 z1 ax (beg x0 y0 z0 ax t q i + t) q = pZ z1 ax (beg x0 y0 z0 ax t q i + t) := if_pos hc
  have eb : beg x0 y0 z0 ax t q i + t + q = beg x0 y0 z0 ax t q (i + 1) := by rw [beg_succ]; omega
  have e12 : spl12 (pX x0 ax (beg x0 y0 z0 ax t q i)) (pY y0 ax (beg x0 y0 z0 ax t q i)) (pZ z0 ax (beg x0 y0 z0 ax t q i)) x1 y1 z1 ax (beg x0 y0 z0 ax t q i + t) q = pX x0 ax (beg x0 y0 z0 ax t q (i + 1)) := (if_pos hc).trans (by rw [pX2, eb])
  have e13 : spl13 (pX x0 ax (beg x0 y0 z0 ax t q i)) (pY y0 ax (beg x0 y0 z0 ax t q i)) (pZ z0 ax (beg x0 y0 z0 ax t q i)) x1 y1 z1 ax (beg x0 y0 z0 ax t q i + t) q = pY y0 ax (beg x0 y0 z0 ax t q (i + 1)) := (if_pos hc).trans (by rw [pY2, eb])
  have e14 : spl14 (pX x0 ax (beg x0 y0 z0 ax t q i)) (pY y0 ax (beg x0 y0 z0 ax t q i)) (pZ z0 ax (beg x0 y0 z0 ax t q i)) x1 y1 z1 ax (beg x0 y0 z0 ax t q i + t) q = pZ z0 ax (beg x0 y0 z0 ax t q (i + 1)) := (if_pos hc).trans (by rw [pZ2, eb])
  have e15 : spl15 (pX x0 ax (beg x0 y0 z0 ax t q i)) (pY y0 ax (beg x0 y0 z0 ax t q i)) (pZ z0 ax (beg x0 y0 z0 ax t q i)) x1 y1 z1 ax (beg x0 y0 z0 ax t q i + t) q = x1 := if_pos hc
  have e16 : spl16 (pX x0 ax (beg x0 y0 z0 ax t q i)) (pY y0 ax (beg x0 y0 z0 ax t q i)) (pZ z0 ax (beg x0 y0 z0 ax t q i)) x1 y1 z1 ax (beg x0 y0 z0 ax t q i + t) q = y1 := if_pos hc
  have e17 : spl17 (pX x0 ax (beg x0 y0 z0 ax t q i)) (pY y0 ax (beg x0 y0 z0 ax t q i)) (pZ z0 ax (beg x0 y0 z0 ax t q i)) x1 y1 z1 ax (beg x0 y0 z0 ax t q i + t) q = z1 := if_pos hc
  have e18 : spl18 (pX x0 ax (beg x0 y0 z0 ax t q i)) (pY y0 ax (beg x0 y0 z0 ax t q i)) (pZ z0 ax (beg x0 y0 z0 ax t q i)) x1 y1 z1 ax (beg x0 y0 z0 ax t q i + t) q = 0 := hc
  refine Eq.trans (b := .returned (.tuple #[.agg #[.int .i64 (spl0 (pX x0 ax (beg x0 y0 z0 ax t q i)) (pY y0 ax (beg x0 y0 z0 ax t q i)) (pZ z0 ax (beg x0 y0 z0 ax t q i)) x1 y1 z1 ax (beg x0 y0 z0 ax t q i + t) q), .int .i64 (spl1 (pX x0 ax (beg x0 y0 z0 ax t q i)) (pY y0 ax (beg x0 y0 z0 ax t q i)) (pZ z0 ax (beg x0 y0 z0 ax t q i)) x1 y1 z1 ax (beg x0 y0 z0 ax t q i + t) q), .int .i64 (spl2 (pX x0 ax (beg x0 y0 z0 ax t q i)) (pY y0 ax (beg x0 y0 z0 ax t q i)) (pZ z0 ax (beg x0 y0 z0 ax t q i)) x1 y1 z1 ax (beg x0 y0 z0 ax t q i + t) q), .int .i64 (spl3 (pX x0 ax (beg x0 y0 z0 ax t q i)) (pY y0 ax (beg x0 y0 z0 ax t q i)) (pZ z0 ax (beg x0 y0 z0 ax t q i)) x1 y1 z1 ax (beg x0 y0 z0 ax t q i + t) q), .int .i64 (spl4 (pX x0 ax (beg x0 y0 z0 ax t q i)) (pY y0 ax (beg x0 y0 z0 ax t q i)) (pZ z0 ax (beg x0 y0 z0 ax t q i)) x1 y1 z1 ax (beg x0 y0 z0 ax t q i + t) q), .int .i64 (spl5 (pX x0 ax (beg x0 y0 z0 ax t q i)) (pY y0 ax (beg x0 y0 z0 ax t q i)) (pZ z0 ax (beg x0 y0 z0 ax t q i)) x1 y1 z1 ax (beg x0 y0 z0 ax t q i + t) q)], .agg #[.int .i64 (spl6 (pX x0 ax (beg x0 y0 z0 ax t q i)) (pY y0 ax (beg x0 y0 z0 ax t q i)) (pZ z0 ax (beg x0 y0 z0 ax t q i)) x1 y1 z1 ax (beg x0 y0 z0 ax t q i + t) q), .int .i64 (spl7 (pX x0 ax (beg x0 y0 z0 ax t q i)) (pY y0 ax (beg x0 y0 z0 ax t q i)) (pZ z0 ax (beg x0 y0 z0 ax t q i)) x1 y1 z1 ax (beg x0 y0 z0 ax t q i + t) q), .int .i64 (spl8 (pX x0 ax (beg x0 y0 z0 ax t q i)) (pY y0 ax (beg x0 y0 z0 ax t q i)) (pZ z0 ax (beg x0 y0 z0 ax t q i)) x1 y1 z1 ax (beg x0 y0 z0 ax t q i + t) q), .int .i64 (spl9 (pX x0 ax (beg x0 y0 z0 ax t q i)) (pY y0 ax (beg x0 y0 z0 ax t q i)) (pZ z0 ax (beg x0 y0 z0 ax t q i)) x1 y1 z1 ax (beg x0 y0 z0 ax t q i + t) q), .int .i64 (spl10 (pX x0 ax (beg x0 y0 z0 ax t q i)) (pY y0 ax (beg x0 y0 z0 ax t q i)) (pZ z0 ax (beg x0 y0 z0 ax t q i)) x1 y1 z1 ax (beg x0 y0 z0 ax t q i + t) q), .int .i64 (spl11 (pX x0 ax (beg x0 y0 z0 ax t q i)) (pY y0 ax (beg x0 y0 z0 ax t q i)) (pZ z0 ax (beg x0 y0 z0 ax t q i)) x1 y1 z1 ax (beg x0 y0 z0 ax t q i + t) q)], .agg #[.int .i64 (spl12 (pX x0 ax (beg x0 y0 z0 ax t q i)) (pY y0 ax (beg x0 y0 z0 ax t q i)) (pZ z0 ax (beg x0 y0 z0 ax t q i)) x1 y1 z1 ax (beg x0 y0 z0 ax t q i + t) q), .int .i64 (spl13 (pX x0 ax (beg x0 y0 z0 ax t q i)) (pY y0 ax (beg x0 y0 z0 ax t q i)) (pZ z0 ax (beg x0 y0 z0 ax t q i)) x1 y1 z1 ax (beg x0 y0 z0 ax t q i + t) q), .int .i64 (spl14 (pX x0 ax (beg x0 y0 z0 ax t q i)) (pY y0 ax (beg x0 y0 z0 ax t q i)) (pZ z0 ax (beg x0 y0 z0 ax t q i)) x1 y1 z1 ax (beg x0 y0 z0 ax t q i + t) q), .int .i64 (spl15 (pX x0 ax (beg x0 y0 z0 ax t q i)) (pY y0 ax (beg x0 y0 z0 ax t q i)) (pZ z0 ax (beg x0 y0 z0 ax t q i)) x1 y1 z1 ax (beg x0 y0 z0 ax t q i + t) q), .int .i64 (spl16 (pX x0 ax (beg x0 y0 z0 ax t q i)) (pY y0 ax (beg x0 y0 z0 ax t q i)) (pZ z0 ax (beg x0 y0 z0 ax t q i)) x1 y1 z1 ax (beg x0 y0 z0 ax t q i + t) q), .int .i64 (spl17 (pX x0 ax (beg x0 y0 z0 ax t q i)) (pY y0 ax (beg x0 y0 z0 ax t q i)) (pZ z0 ax (beg x0 y0 z0 ax t q i)) x1 y1 z1 ax (beg x0 y0 z0 ax t q i + t) q)], .int .i64 (spl18 (pX x0 ax (beg x0 y0 z0 ax t q i)) (pY y0 ax (beg x0 y0 z0 ax t q i)) (pZ z0 ax (beg x0 y0 z0 ax t q i)) x1 y1 z1 ax (beg x0 y0 z0 ax t q i + t) q)])) rfl ?_
  rw [e0, e1, e2, e3, e4, e5, e12, e13, e14, e15, e16, e17, e18]
end
end Go.Proofs.Ytdfcphfoccgopaa.QK
