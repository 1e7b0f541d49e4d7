/- The kerf seat: the closure of kerf.Trim, walked by hand. -/
import Derived.Test.YtdfcphfoccgopaaKG
import Derived.Deep.Draws
import Derived.Deep.AppendLies
import Derived.Maps.AppendAt
import Derived.OwnWalk
import Derived.Laws.MakeOwn
import Derived.Laws.OwnMore
import Derived.Deep.OwnRows
import Derived.Tactics
import Derived.Laws.Slices
import Derived.WalkKit
import Derived.KernelRfl
import Derived.RowKit3
import Derived.Deep.LoopGhost
import Derived.Deep.QuietTactic
import Derived.BigQuiet
import Derived.Deep.RegionHeld3
import Derived.Laws.Rows
import Derived.RowKit
import Derived.Test.YtdfcphfoccgopaaWWords
import Derived.Test.YtdfcphfoccgopaaWLast
import Derived.Test.YtdfcphfoccgopaaWMore
namespace Go.Proofs.Ytdfcphfoccgopaa.KT
open Go.Sx Go.RowKit Go.Proofs.Ytdfcphfoccgopaa Go.Proofs.YtdfcphfoccgopaaW.PrintWords Go.Proofs.YtdfcphfoccgopaaW.PrintLast Go.Proofs.YtdfcphfoccgopaaW.PrintMore
set_option linter.unusedVariables false
set_option linter.unusedSimpArgs false
attribute [local go_sem] max2_int min2_int max_two min_two
/-- A world behind draws and new blocks. -/
class Lift (W W' : World) : Prop where
  h : Below W.heap.size W W'
instance (W : World) : Lift W W := ⟨Below.refl _ _⟩
instance (W W' : World) (n : Nat) [i : Lift W W'] : Lift W (W'.drewN n) := ⟨pw_below_drewN i.h n⟩
instance (W W' : World) [i : Lift W W'] : Lift W W'.drew := ⟨below_drew i.h⟩
instance (W W' : World) (x : Obj) [i : Lift W W'] : Lift W (W'.alloc x) := ⟨below_alloc i.h x⟩
theorem kL {W W' : World} [i : Lift W W'] {g : Nat} {o : Obj} (h : W.heap[g]? = some o) : W'.heap[g]? = some o := blk_below h i.h
theorem bL {W W' W2 : World} [i : Lift W W'] {g : Nat} {o : Obj} (h : W.heap[g]? = some o) (hb : Below W'.heap.size W' W2) : W2.heap[g]? = some o := blk_below (kL h) hb
theorem gL {W W' W2 : World} [i : Lift W W'] {g : Nat} {o : Obj} {r : Option Nat} (h : W.heap[g]? = some o) (hg : W'.grownBy W2 r) (hn : some g ≠ r) : W2.heap[g]? = some o := blk_grown (kL h) hg hn
theorem fL {W W' : World} [i : Lift W W'] {g : Nat} {o : Obj} (h : W.heap[g]? = some o) : ∀ k, W'.heap.size ≤ k → k ≠ g := Kd.freshB (kL h)
theorem lL {W W' : World} [i : Lift W W'] {g : Nat} {o : Obj} (h : W.heap[g]? = some o) : g < W'.heap.size := blk_lt (kL h)
theorem rL {S : Type} {d : Kd S} {W W' : World} [i : Lift W W'] {e base : Nat} {ok : Nat → Prop} {v : Value} {l : List S} (h : d.R e W base ok v l) : d.R e W' base ok v l := Kd.R_below h i.h
theorem rbL {S : Type} {d : Kd S} {W W' W2 : World} [i : Lift W W'] {e base : Nat} {ok : Nat → Prop} {v : Value} {l : List S} (h : d.R e W base ok v l) (hb : Below W'.heap.size W' W2) : d.R e W2 base ok v l := Kd.R_below (rL h) hb
theorem blL {w W W' : World} [i : Lift W W'] (h : Below w.heap.size w W) : Below w.heap.size w W' := below_step h i.h
theorem bbL {w W W' W2 : World} [i : Lift W W'] (h : Below w.heap.size w W) (hb : Below W'.heap.size W' W2) : Below w.heap.size w W2 := below_step (blL h) hb
theorem thL {n0 : Nat} {w0 W W' W2 : World} [i : Lift W W'] (h : Below n0 w0 W) (hn : n0 ≤ W.heap.size) (hb : Below W'.heap.size W' W2) : Below n0 w0 W2 := below_then (below_then h hn i.h) (Nat.le_trans hn i.h.size) hb
theorem info33 : (Try.prog.info? 33).map (fun i => (i.zero, i.size, i.bytes)) = some (some (.agg #[(.int .i64 0), (.int .i64 0), (.int .i64 0)]), 3, 24) := by kernel_rfl
theorem btwC (x0 y0 z0 x1 y1 z1 ax lo hi : Int) (hp : inA ax = true) (w : World) :
    Calls Try.prog 43 #[.agg #[.int .i64 x0, .int .i64 y0, .int .i64 z0, .int .i64 x1, .int .i64 y1, .int .i64 z1], .int .i64 ax, .int .i64 lo, .int .i64 hi] w fun e w' => e = .returned (.agg #[.int .i64 (pX x0 ax lo), .int .i64 (pY y0 ax lo), .int .i64 (pZ z0 ax lo), .int .i64 (pX x1 ax hi), .int .i64 (pY y1 ax hi), .int .i64 (pZ z1 ax hi)]) ∧ Below w.heap.size w w' :=
  gv (f := 43) ⟨[iv 6, i1, i1, i1], [iv 6], none, none, none⟩ c43 rfl rfl rfl (by kernel_rfl) [.int x0, .int y0, .int z0, .int x1, .int y1, .int z1, .int ax, .int lo, .int hi] w ⟨⟨_, rfl⟩, ⟨_, rfl⟩, ⟨_, rfl⟩, ⟨_, rfl⟩, ⟨_, rfl⟩, ⟨_, rfl⟩, ⟨_, rfl⟩, ⟨_, rfl⟩, ⟨_, rfl⟩, trivial⟩ hp
theorem volC (x0 y0 z0 x1 y1 z1 : Int) (hp : inB x0 y0 z0 x1 y1 z1 = true) (w : World) :
    Calls Try.prog 44 #[.agg #[.int .i64 x0, .int .i64 y0, .int .i64 z0, .int .i64 x1, .int .i64 y1, .int .i64 z1]] w fun e w' => e = .returned (.int .i64 (volE x0 y0 z0 x1 y1 z1)) ∧ Below w.heap.size w w' :=
  gv (f := 44) ⟨[iv 6], [i1], none, none, none⟩ c44 rfl rfl rfl (by kernel_rfl) [.int x0, .int y0, .int z0, .int x1, .int y1, .int z1] w ⟨⟨_, rfl⟩, ⟨_, rfl⟩, ⟨_, rfl⟩, ⟨_, rfl⟩, ⟨_, rfl⟩, ⟨_, rfl⟩, trivial⟩ hp
abbrev OKb (g3 g4 g5 g10 g11 g12 : Nat) (j : Nat) : Prop := j ≠ g3 ∧ j ≠ g4 ∧ j ≠ g5 ∧ j ≠ g10 ∧ j ≠ g11 ∧ j ≠ g12
abbrev ptr (g : Nat) : Value := .pointer (some ⟨g, 0, none⟩)

set_option maxHeartbeats 4000000 in
theorem clo {S : Type} (k : Kd S) (mk : Int → Int → Int → S) (hM : ∀ w base ok a b c, k.M w base ok (mk a b c) [.int .i64 a, .int .i64 b, .int .i64 c]) (hsz : k.sz = 3)
    (n0 : Nat) (w0 w : World) (HB : Below n0 w0 w) (g3 g4 g5 g10 g11 g12 : Nat) (x0 y0 z0 x1 y1 z1 kf lost ax d p fr : Int) (v : Value) (l : List S)
    (b3 : w.heap[g3]? = some (.cells #[.int .i64 x0, .int .i64 y0, .int .i64 z0, .int .i64 x1, .int .i64 y1, .int .i64 z1] 25 (0, 0)))
    (b5 : w.heap[g5]? = some (.cells #[.int .i64 kf] 3 (0, 0)))
    (b10 : w.heap[g10]? = some (.cells #[v] 55 (0, 0)))
    (b11 : w.heap[g11]? = some (.cells #[.int .i64 lost] 2 (0, 0)))
    (b12 : w.heap[g12]? = some (.cells #[.int .i64 ax] 3 (0, 0)))
    (l4 : g4 < w.heap.size)
    (hge10 : n0 ≤ g10) (hge11 : n0 ≤ g11)
    (HR : k.R 33 w n0 (OKb g3 g4 g5 g10 g11 g12) v l) (hl : l.length ≤ 100) (hax : inA ax = true) (m : Int) (hm : m = if d ≤ kf then d else kf) (hw : IntKind.i64.wrap (fr + m) = fr + m)
    (hin : inB (pX x0 ax fr) (pY y0 ax fr) (pZ z0 ax fr) (pX x1 ax (fr + m)) (pY y1 ax (fr + m)) (pZ z1 ax (fr + m)) = true) :
    Calls Try.prog 53 #[.int .i64 d, .int .i64 p, .int .i64 fr, ptr g5, ptr g10, ptr g12, ptr g11, ptr g3] w fun e w' => e = .returned (.tuple #[]) ∧ ∃ v',
      w'.heap[g10]? = some (.cells #[v'] 55 (0, 0)) ∧
      w'.heap[g11]? = some (.cells #[.int .i64 (IntKind.i64.wrap (lost + volE (pX x0 ax fr) (pY y0 ax fr) (pZ z0 ax fr) (pX x1 ax (fr + m)) (pY y1 ax (fr + m)) (pZ z1 ax (fr + m))))] 2 (0, 0)) ∧
      k.R 33 w' n0 (OKb g3 g4 g5 g10 g11 g12) v' (l ++ if kf < d then [mk ax p kf] else []) ∧ Below n0 w0 w' ∧
      (∀ g o, w.heap[g]? = some o → g ≠ g10 → g ≠ g11 → some g ≠ v.ownBlock → w'.heap[g]? = some o) := by
  have c5 : w.cell? ⟨g5, 0, none⟩ = some (.int .i64 kf) := (blk_cell b5 0).trans rfl
  have c10 : w.cell? ⟨g10, 0, none⟩ = some v := (blk_cell b10 0).trans rfl
  have c12 : w.cell? ⟨g12, 0, none⟩ = some (.int .i64 ax) := (blk_cell b12 0).trans rfl
  have hs1 := hsz
  have n105 := blk_ne b10 b5 (by decide)
  have hs10 : g10 < w.heap.size := blk_lt b10
  have HRa := Aside0.mk HR
  have HBa := Aside0.mk HB
  have HIN := Aside0.mk hin
  have B3 := Aside0.mk b3
  have B5 := Aside0.mk b5
  have B10 := Aside0.mk b10
  have B11 := Aside0.mk b11
  have B12 := Aside0.mk b12
  have FR := Aside0.mk (fun g o (h : w.heap[g]? = some o) (_ : g ≠ g10) (_ : g ≠ g11) (_ : some g ≠ v.ownBlock) => h)
  clear HR HB hin b3 b5 b10 b11 b12
  by_cases hd : kf < d
  · obtain rfl : kf = m := by rw [hm, if_neg (by omega)]
    clear hm
    go_enter Try.func53, Try.ntmps53
    go_wp2_with (first | ((with_reducible refine gate_builtin (b := .append) (xs := #[.tmp 14, .tmp 19]) rfl ?_); at_builtin; refine Kd.R_append k (w0 := w0) n0 rfl (.tmp 14) (.tmp 19) 55 33 (.agg #[(.int .i64 0), (.int .i64 0), (.int .i64 0)]) 24 rfl (by kernel_rfl) (by rw [hsz]; exact info33) (by rw [hsz]; rfl) (by omega) (by decide) v l (mk ax p kf) [.int .i64 ax, .int .i64 p, .int .i64 kf] (OKb g3 g4 g5 g10 g11 g12) (fun _ => False) rfl rfl ?aP (fun _ hk => hk.elim) ?aF ?aO ?aB ?aS ?aL ?_; (case aP => exact hM _ _ _ _ _ _); (case aB => exact HBa.out); (case aF => exact (fun k_ hk => ⟨Kd.freshB B3.out k_ hk, (by omega), Kd.freshB B5.out k_ hk, Kd.freshB B10.out k_ hk, Kd.freshB B11.out k_ hk, Kd.freshB B12.out k_ hk⟩)); (case aO => exact HRa.out); (case aS => omega); (case aL => omega); intro v1 w1 ho hb hg hat; obtain ⟨A1, cp1, hv1⟩ := Kd.R_slice ho; (have hln : (l ++ [mk ax p kf]).length = l.length + 1 := by simp); rw [hln] at hv1; subst hv1; have ho := Aside0.mk ho; clear hln; have n3 := Aside0.mk (blk_grown B3.out hg (Kd.R_away HRa.out (fun _ hk => hk.1))); have n5 := Aside0.mk (blk_grown B5.out hg (Kd.R_away HRa.out (fun _ hk => hk.2.2.1))); have n10 := Aside0.mk (blk_grown B10.out hg (Kd.R_away HRa.out (fun _ hk => hk.2.2.2.1))); have n11 := Aside0.mk (blk_grown B11.out hg (Kd.R_away HRa.out (fun _ hk => hk.2.2.2.2.1))); have n12 := Aside0.mk (blk_grown B12.out hg (Kd.R_away HRa.out (fun _ hk => hk.2.2.2.2.2))); have m10 : w1.cell? ⟨g10, 0, none⟩ = some v := (blk_cell n10.out 0).trans rfl; have mf10 := blk_frozen n10.out 0; have hfr := Aside0.mk (fun g o (h : w.heap[g]? = some o) (h1 : g ≠ g10) (h2 : g ≠ g11) (h3 : some g ≠ v.ownBlock) => (blk_grown h hg h3)); have hb := Aside0.mk hb; have hs1 : w.heap.size ≤ w1.heap.size := hg.size; clear hg hat c5 c10 c12 B3 B5 B10 B11 B12 FR HRa HBa))
    have n113 := blk_ne n11.out n3.out (by decide)
    have n103 := blk_ne n10.out n3.out (by decide)
    have n1011 := blk_ne n10.out n11.out (by decide)
    have n105 := blk_ne n10.out n5.out (by decide)
    have n1012 := blk_ne n10.out n12.out (by decide)
    have B3 := Aside0.mk (blk_far n3.out (p := ⟨g10, 0, none⟩) n103.symm (.slice A1 (l.length + 1) cp1))
    have B5 := Aside0.mk (blk_far n5.out (p := ⟨g10, 0, none⟩) n105.symm (.slice A1 (l.length + 1) cp1))
    have B11 := Aside0.mk (blk_far n11.out (p := ⟨g10, 0, none⟩) n1011.symm (.slice A1 (l.length + 1) cp1))
    have B12 := Aside0.mk (blk_far n12.out (p := ⟨g10, 0, none⟩) n1012.symm (.slice A1 (l.length + 1) cp1))
    have B10 := Aside0.mk (blk_put n10.out 0 (.slice A1 (l.length + 1) cp1) (cs' := #[.slice A1 (l.length + 1) cp1]) rfl)
    have HRa := Aside0.mk (Kd.R_far ho.out (p := ⟨g10, 0, none⟩) (fun _ hk => hk.2.2.2.1) (.slice A1 (l.length + 1) cp1))
    have HBa := Aside0.mk ((hb.out.setCell (p := ⟨g10, 0, none⟩) hge10 (.slice A1 (l.length + 1) cp1)))
    have FR := Aside0.mk (fun g o (h : w.heap[g]? = some o) (h1 : g ≠ g10) (h2 : g ≠ g11) (h3 : some g ≠ v.ownBlock) => ((Below.heap_setCell w1 ⟨g10, 0, none⟩ (.slice A1 (l.length + 1) cp1) g h1).trans (hfr.out g o h h1 h2 h3) : (w1.setCell ⟨g10, 0, none⟩ (.slice A1 (l.length + 1) cp1)).heap[g]? = some o))
    clear n3 n5 n10 n11 n12 m10 mf10 ho hb hfr
    generalize w1.setCell ⟨g10, 0, none⟩ (.slice A1 (l.length + 1) cp1) = w2 at *
    generalize Value.slice A1 (l.length + 1) cp1 = v2 at *
    generalize hl2 : l ++ [mk ax p kf] = l2 at *
    have e30 : w2.cell? ⟨g3, 0, none⟩ = some (.int .i64 x0) := (blk_cell B3.out 0).trans rfl
    have e31 : w2.cell? ⟨g3, 1, none⟩ = some (.int .i64 y0) := (blk_cell B3.out 1).trans rfl
    have e32 : w2.cell? ⟨g3, 2, none⟩ = some (.int .i64 z0) := (blk_cell B3.out 2).trans rfl
    have e33 : w2.cell? ⟨g3, 3, none⟩ = some (.int .i64 x1) := (blk_cell B3.out 3).trans rfl
    have e34 : w2.cell? ⟨g3, 4, none⟩ = some (.int .i64 y1) := (blk_cell B3.out 4).trans rfl
    have e35 : w2.cell? ⟨g3, 5, none⟩ = some (.int .i64 z1) := (blk_cell B3.out 5).trans rfl
    have e5 : w2.cell? ⟨g5, 0, none⟩ = some (.int .i64 kf) := (blk_cell B5.out 0).trans rfl
    have e12 : w2.cell? ⟨g12, 0, none⟩ = some (.int .i64 ax) := (blk_cell B12.out 0).trans rfl
    have e11 : w2.cell? ⟨g11, 0, none⟩ = some (.int .i64 lost) := (blk_cell B11.out 0).trans rfl
    have f11 := blk_frozen B11.out 0
    have m113 := blk_ne B3.out B11.out (by decide)
    have m115 := blk_ne B5.out B11.out (by decide)
    have m1112 := blk_ne B12.out B11.out (by decide)
    have m1011 := blk_ne B10.out B11.out (by decide)
    have S3 := Aside0.mk (show w2.cell? ⟨g5, 0, none⟩ = some (.int .i64 kf) ∧ w2.cell? ⟨g12, 0, none⟩ = some (.int .i64 ax) ∧ w2.cell? ⟨g3, 0, none⟩ = some (.int .i64 x0) ∧ w2.cell? ⟨g3, 1, none⟩ = some (.int .i64 y0) ∧ w2.cell? ⟨g3, 2, none⟩ = some (.int .i64 z0) ∧ w2.cell? ⟨g3, 3, none⟩ = some (.int .i64 x1) ∧ w2.cell? ⟨g3, 4, none⟩ = some (.int .i64 y1) ∧ w2.cell? ⟨g3, 5, none⟩ = some (.int .i64 z1) from ⟨e5, e12, e30, e31, e32, e33, e34, e35⟩)
    refine wp_region_noPanic ?_
    refine wp_region_held_drew (S := (fun w' => w'.cell? ⟨g5, 0, none⟩ = some (.int .i64 kf) ∧ w'.cell? ⟨g12, 0, none⟩ = some (.int .i64 ax) ∧ w'.cell? ⟨g3, 0, none⟩ = some (.int .i64 x0) ∧ w'.cell? ⟨g3, 1, none⟩ = some (.int .i64 y0) ∧ w'.cell? ⟨g3, 2, none⟩ = some (.int .i64 z0) ∧ w'.cell? ⟨g3, 3, none⟩ = some (.int .i64 x1) ∧ w'.cell? ⟨g3, 4, none⟩ = some (.int .i64 y1) ∧ w'.cell? ⟨g3, 5, none⟩ = some (.int .i64 z1))) (by kernel_rfl) S3.out (fun hHeld => ?_)
    refine wpAnyH_take (i := 1) (v := ?_) rfl (by kernel_rfl) (by kernel_rfl) (by kernel_rfl) (fun _ _ _ h => h) (Or.inl ⟨by rfl, ?_⟩) hHeld ?_
    rotate_left
    · rintro w' ⟨s0, s1, s2, s3, s4, s5, s6, s7⟩
      go_simp
      try with_reducible rfl
    try simp only [Act.put, List.setIfInBounds_toArray, List.set_cons_zero, List.set_cons_succ]
    refine wpAnyH_take (i := 2) (v := ?_) rfl (by kernel_rfl) (by kernel_rfl) (by kernel_rfl) (fun _ _ _ h => h) (Or.inl ⟨by rfl, ?_⟩) hHeld ?_
    rotate_left
    · rintro w' ⟨s0, s1, s2, s3, s4, s5, s6, s7⟩
      go_simp
      try with_reducible rfl
    try simp only [Act.put, List.setIfInBounds_toArray, List.set_cons_zero, List.set_cons_succ]
    refine wpAnyH_take (i := 3) (v := ?_) rfl (by kernel_rfl) (by kernel_rfl) (by kernel_rfl) (fun _ _ _ h => h) (Or.inl ⟨by rfl, ?_⟩) hHeld ?_
    rotate_left
    · rintro w' ⟨s0, s1, s2, s3, s4, s5, s6, s7⟩
      go_simp
      try with_reducible rfl
    try simp only [Act.put, List.setIfInBounds_toArray, List.set_cons_zero, List.set_cons_succ]
    refine wpAnyH_take (i := 4) (v := ?_) rfl (by kernel_rfl) (by kernel_rfl) (by kernel_rfl) (fun _ _ _ h => h) (Or.inl ⟨by rfl, ?_⟩) hHeld ?_
    rotate_left
    · rintro w' ⟨s0, s1, s2, s3, s4, s5, s6, s7⟩
      go_simp
      try with_reducible rfl
    try simp only [Act.put, List.setIfInBounds_toArray, List.set_cons_zero, List.set_cons_succ]
    refine wpAnyH_take (i := 5) (v := ?_) rfl (by kernel_rfl) (by kernel_rfl) (by kernel_rfl) (fun _ _ _ h => h) (Or.inl ⟨by rfl, ?_⟩) hHeld ?_
    rotate_left
    · rintro w' ⟨s0, s1, s2, s3, s4, s5, s6, s7⟩
      go_simp
      try with_reducible rfl
    try simp only [Act.put, List.setIfInBounds_toArray, List.set_cons_zero, List.set_cons_succ]
    refine wpAnyH_take (i := 6) (v := ?_) rfl (by kernel_rfl) (by kernel_rfl) (by kernel_rfl) (fun _ _ _ h => h) (Or.inl ⟨by rfl, ?_⟩) hHeld ?_
    rotate_left
    · rintro w' ⟨s0, s1, s2, s3, s4, s5, s6, s7⟩
      go_simp
      try with_reducible rfl
    try simp only [Act.put, List.setIfInBounds_toArray, List.set_cons_zero, List.set_cons_succ]
    refine wpAnyH_take (i := 7) (v := ?_) rfl (by kernel_rfl) (by kernel_rfl) (by kernel_rfl) (fun _ _ _ h => h) (Or.inl ⟨by rfl, ?_⟩) hHeld ?_
    rotate_left
    · rintro w' ⟨s0, s1, s2, s3, s4, s5, s6, s7⟩
      go_simp
      try with_reducible rfl
    try simp only [Act.put, List.setIfInBounds_toArray, List.set_cons_zero, List.set_cons_succ]
    refine wpAnyH_take (i := 8) (v := ?_) rfl (by kernel_rfl) (by kernel_rfl) (by kernel_rfl) (fun _ _ _ h => h) (Or.inl ⟨by rfl, ?_⟩) hHeld ?_
    rotate_left
    · rintro w' ⟨s0, s1, s2, s3, s4, s5, s6, s7⟩
      go_simp
      try with_reducible rfl
    try simp only [Act.put, List.setIfInBounds_toArray, List.set_cons_zero, List.set_cons_succ]
    refine wpAnyH_ready (rs := [0, 9]) (by kernel_rfl) (by simp) ?_
    refine AllReadyH.cons rfl (fun K hK => ?_) ?_
    · skip
      go_simp
      refine hK.out _ _ hHeld (fun hHeld => ?_)
      clear hK K
      try simp only [Act.put, List.setIfInBounds_toArray, List.set_cons_zero, List.set_cons_succ]
      refine wpAnyH_ready (rs := [9]) (by kernel_rfl) (by simp) ?_
      refine AllReadyH.cons rfl (fun K hK => ?_) ?_
      · skip
        go_simp
        go_at_call 43; refine (btwC x0 y0 z0 x1 y1 z1 ax fr (fr + kf) hax _).mono ?_; rintro e wA ⟨rfl, hbc⟩; have q3 := Aside0.mk (bL B3.out hbc); have q5 := Aside0.mk (bL B5.out hbc); have q10 := Aside0.mk (bL B10.out hbc); have q11 := Aside0.mk (bL B11.out hbc); have q12 := Aside0.mk (bL B12.out hbc); have qR := Aside0.mk (rbL HRa.out hbc); have qB := Aside0.mk (thL HBa.out (Nat.le_trans hge10 (Nat.le_of_lt (blk_lt B10.out))) hbc); have qF := Aside0.mk (fun g o h h1 h2 h3 => bL (FR.out g o h h1 h2 h3) hbc); have e11 := (blk_cell q11.out 0).trans rfl; have f11 := blk_frozen q11.out 0; clear B3 B5 B10 B11 B12 HRa HBa FR; have HBa := qB; have FR := qF; have B3 := q3; have B5 := q5; have B10 := q10; have B11 := q11; have B12 := q12; have HRa := qR; clear q3 q5 q10 q11 q12 qR qB qF
        refine hK.out _ _ ⟨(blk_cell B5.out 0).trans rfl, (blk_cell B12.out 0).trans rfl, (blk_cell B3.out 0).trans rfl, (blk_cell B3.out 1).trans rfl, (blk_cell B3.out 2).trans rfl, (blk_cell B3.out 3).trans rfl, (blk_cell B3.out 4).trans rfl, (blk_cell B3.out 5).trans rfl⟩ (fun hHeld => ?_)
        clear hK K
        try simp only [Act.put, List.setIfInBounds_toArray, List.set_cons_zero, List.set_cons_succ]
        refine wpAnyH_ready (rs := [10]) (by kernel_rfl) (by simp) ?_
        refine AllReadyH.cons rfl (fun K hK => ?_) ?_
        · skip
          go_simp
          go_at_call 44; refine (volC _ _ _ _ _ _ HIN.out _).mono ?_; rintro e wB ⟨rfl, hbc⟩; have q3 := Aside0.mk (bL B3.out hbc); have q5 := Aside0.mk (bL B5.out hbc); have q10 := Aside0.mk (bL B10.out hbc); have q11 := Aside0.mk (bL B11.out hbc); have q12 := Aside0.mk (bL B12.out hbc); have qR := Aside0.mk (rbL HRa.out hbc); have qB := Aside0.mk (thL HBa.out (Nat.le_trans hge10 (Nat.le_of_lt (blk_lt B10.out))) hbc); have qF := Aside0.mk (fun g o h h1 h2 h3 => bL (FR.out g o h h1 h2 h3) hbc); have e11 := (blk_cell q11.out 0).trans rfl; have f11 := blk_frozen q11.out 0; clear B3 B5 B10 B11 B12 HRa HBa FR; have HBa := qB; have FR := qF; have B3 := q3; have B5 := q5; have B10 := q10; have B11 := q11; have B12 := q12; have HRa := qR; clear q3 q5 q10 q11 q12 qR qB qF
          refine hK.out _ _ ⟨(blk_cell B5.out 0).trans rfl, (blk_cell B12.out 0).trans rfl, (blk_cell B3.out 0).trans rfl, (blk_cell B3.out 1).trans rfl, (blk_cell B3.out 2).trans rfl, (blk_cell B3.out 3).trans rfl, (blk_cell B3.out 4).trans rfl, (blk_cell B3.out 5).trans rfl⟩ (fun hHeld => ?_)
          clear hK K
          try simp only [Act.put, List.setIfInBounds_toArray, List.set_cons_zero, List.set_cons_succ]
          refine wpAnyH_take (i := 11) (v := ?_) rfl (by kernel_rfl) (by kernel_rfl) (by kernel_rfl) (fun _ _ _ h => h) (Or.inl ⟨by rfl, ?_⟩) hHeld ?_
          rotate_left
          · rintro w' ⟨s0, s1, s2, s3, s4, s5, s6, s7⟩
            go_simp
            try with_reducible rfl
          try simp only [Act.put, List.setIfInBounds_toArray, List.set_cons_zero, List.set_cons_succ]
          refine wpAnyH_ready (rs := [12]) (by kernel_rfl) (by simp) ?_
          refine AllReadyH.cons rfl (fun K hK => ?_) ?_
          · skip
            go_simp
            refine hK.out _ _ ⟨(blk_cell (blk_far B5.out (p := ⟨g11, 0, none⟩) m115 _) 0).trans rfl, (blk_cell (blk_far B12.out (p := ⟨g11, 0, none⟩) m1112 _) 0).trans rfl, (blk_cell (blk_far B3.out (p := ⟨g11, 0, none⟩) m113 _) 0).trans rfl, (blk_cell (blk_far B3.out (p := ⟨g11, 0, none⟩) m113 _) 1).trans rfl, (blk_cell (blk_far B3.out (p := ⟨g11, 0, none⟩) m113 _) 2).trans rfl, (blk_cell (blk_far B3.out (p := ⟨g11, 0, none⟩) m113 _) 3).trans rfl, (blk_cell (blk_far B3.out (p := ⟨g11, 0, none⟩) m113 _) 4).trans rfl, (blk_cell (blk_far B3.out (p := ⟨g11, 0, none⟩) m113 _) 5).trans rfl⟩ (fun hHeld => ?_)
            clear hK K
            try simp only [Act.put, List.setIfInBounds_toArray, List.set_cons_zero, List.set_cons_succ]
            refine wpAnyH_done (by kernel_rfl) ?_ _
            refine NoPanic.normal ?_
            go_end0
            refine ⟨rfl, v2, blk_far B10.out (p := ⟨g11, 0, none⟩) m1011 _, blk_put B11.out 0 _ rfl, ?_, HBa.out.setCell (p := ⟨g11, 0, none⟩) hge11 _, fun g o h h1 h2 h3 => (Below.heap_setCell _ ⟨g11, 0, none⟩ _ g h2).trans (FR.out g o h h1 h2 h3)⟩
            rw [if_pos hd, hl2]
            exact Kd.R_far HRa.out (p := ⟨g11, 0, none⟩) (fun _ hk => hk.2.2.2.2.1) _
          exact AllReadyH.nil
        exact AllReadyH.nil
      exact AllReadyH.nil
    refine AllReadyH.cons rfl (fun K hK => ?_) ?_
    · skip
      go_simp
      go_at_call 43; refine (btwC x0 y0 z0 x1 y1 z1 ax fr (fr + kf) hax _).mono ?_; rintro e wA ⟨rfl, hbc⟩; have q3 := Aside0.mk (bL B3.out hbc); have q5 := Aside0.mk (bL B5.out hbc); have q10 := Aside0.mk (bL B10.out hbc); have q11 := Aside0.mk (bL B11.out hbc); have q12 := Aside0.mk (bL B12.out hbc); have qR := Aside0.mk (rbL HRa.out hbc); have qB := Aside0.mk (thL HBa.out (Nat.le_trans hge10 (Nat.le_of_lt (blk_lt B10.out))) hbc); have qF := Aside0.mk (fun g o h h1 h2 h3 => bL (FR.out g o h h1 h2 h3) hbc); have e11 := (blk_cell q11.out 0).trans rfl; have f11 := blk_frozen q11.out 0; clear B3 B5 B10 B11 B12 HRa HBa FR; have HBa := qB; have FR := qF; have B3 := q3; have B5 := q5; have B10 := q10; have B11 := q11; have B12 := q12; have HRa := qR; clear q3 q5 q10 q11 q12 qR qB qF
      refine hK.out _ _ ⟨(blk_cell B5.out 0).trans rfl, (blk_cell B12.out 0).trans rfl, (blk_cell B3.out 0).trans rfl, (blk_cell B3.out 1).trans rfl, (blk_cell B3.out 2).trans rfl, (blk_cell B3.out 3).trans rfl, (blk_cell B3.out 4).trans rfl, (blk_cell B3.out 5).trans rfl⟩ (fun hHeld => ?_)
      clear hK K
      try simp only [Act.put, List.setIfInBounds_toArray, List.set_cons_zero, List.set_cons_succ]
      refine wpAnyH_ready (rs := [0, 10]) (by kernel_rfl) (by simp) ?_
      refine AllReadyH.cons rfl (fun K hK => ?_) ?_
      · skip
        go_simp
        refine hK.out _ _ hHeld (fun hHeld => ?_)
        clear hK K
        try simp only [Act.put, List.setIfInBounds_toArray, List.set_cons_zero, List.set_cons_succ]
        refine wpAnyH_ready (rs := [10]) (by kernel_rfl) (by simp) ?_
        refine AllReadyH.cons rfl (fun K hK => ?_) ?_
        · skip
          go_simp
          go_at_call 44; refine (volC _ _ _ _ _ _ HIN.out _).mono ?_; rintro e wB ⟨rfl, hbc⟩; have q3 := Aside0.mk (bL B3.out hbc); have q5 := Aside0.mk (bL B5.out hbc); have q10 := Aside0.mk (bL B10.out hbc); have q11 := Aside0.mk (bL B11.out hbc); have q12 := Aside0.mk (bL B12.out hbc); have qR := Aside0.mk (rbL HRa.out hbc); have qB := Aside0.mk (thL HBa.out (Nat.le_trans hge10 (Nat.le_of_lt (blk_lt B10.out))) hbc); have qF := Aside0.mk (fun g o h h1 h2 h3 => bL (FR.out g o h h1 h2 h3) hbc); have e11 := (blk_cell q11.out 0).trans rfl; have f11 := blk_frozen q11.out 0; clear B3 B5 B10 B11 B12 HRa HBa FR; have HBa := qB; have FR := qF; have B3 := q3; have B5 := q5; have B10 := q10; have B11 := q11; have B12 := q12; have HRa := qR; clear q3 q5 q10 q11 q12 qR qB qF
          refine hK.out _ _ ⟨(blk_cell B5.out 0).trans rfl, (blk_cell B12.out 0).trans rfl, (blk_cell B3.out 0).trans rfl, (blk_cell B3.out 1).trans rfl, (blk_cell B3.out 2).trans rfl, (blk_cell B3.out 3).trans rfl, (blk_cell B3.out 4).trans rfl, (blk_cell B3.out 5).trans rfl⟩ (fun hHeld => ?_)
          clear hK K
          try simp only [Act.put, List.setIfInBounds_toArray, List.set_cons_zero, List.set_cons_succ]
          refine wpAnyH_take (i := 11) (v := ?_) rfl (by kernel_rfl) (by kernel_rfl) (by kernel_rfl) (fun _ _ _ h => h) (Or.inl ⟨by rfl, ?_⟩) hHeld ?_
          rotate_left
          · rintro w' ⟨s0, s1, s2, s3, s4, s5, s6, s7⟩
            go_simp
            try with_reducible rfl
          try simp only [Act.put, List.setIfInBounds_toArray, List.set_cons_zero, List.set_cons_succ]
          refine wpAnyH_ready (rs := [12]) (by kernel_rfl) (by simp) ?_
          refine AllReadyH.cons rfl (fun K hK => ?_) ?_
          · skip
            go_simp
            refine hK.out _ _ ⟨(blk_cell (blk_far B5.out (p := ⟨g11, 0, none⟩) m115 _) 0).trans rfl, (blk_cell (blk_far B12.out (p := ⟨g11, 0, none⟩) m1112 _) 0).trans rfl, (blk_cell (blk_far B3.out (p := ⟨g11, 0, none⟩) m113 _) 0).trans rfl, (blk_cell (blk_far B3.out (p := ⟨g11, 0, none⟩) m113 _) 1).trans rfl, (blk_cell (blk_far B3.out (p := ⟨g11, 0, none⟩) m113 _) 2).trans rfl, (blk_cell (blk_far B3.out (p := ⟨g11, 0, none⟩) m113 _) 3).trans rfl, (blk_cell (blk_far B3.out (p := ⟨g11, 0, none⟩) m113 _) 4).trans rfl, (blk_cell (blk_far B3.out (p := ⟨g11, 0, none⟩) m113 _) 5).trans rfl⟩ (fun hHeld => ?_)
            clear hK K
            try simp only [Act.put, List.setIfInBounds_toArray, List.set_cons_zero, List.set_cons_succ]
            refine wpAnyH_done (by kernel_rfl) ?_ _
            refine NoPanic.normal ?_
            go_end0
            refine ⟨rfl, v2, blk_far B10.out (p := ⟨g11, 0, none⟩) m1011 _, blk_put B11.out 0 _ rfl, ?_, HBa.out.setCell (p := ⟨g11, 0, none⟩) hge11 _, fun g o h h1 h2 h3 => (Below.heap_setCell _ ⟨g11, 0, none⟩ _ g h2).trans (FR.out g o h h1 h2 h3)⟩
            rw [if_pos hd, hl2]
            exact Kd.R_far HRa.out (p := ⟨g11, 0, none⟩) (fun _ hk => hk.2.2.2.2.1) _
          exact AllReadyH.nil
        exact AllReadyH.nil
      refine AllReadyH.cons rfl (fun K hK => ?_) ?_
      · skip
        go_simp
        go_at_call 44; refine (volC _ _ _ _ _ _ HIN.out _).mono ?_; rintro e wB ⟨rfl, hbc⟩; have q3 := Aside0.mk (bL B3.out hbc); have q5 := Aside0.mk (bL B5.out hbc); have q10 := Aside0.mk (bL B10.out hbc); have q11 := Aside0.mk (bL B11.out hbc); have q12 := Aside0.mk (bL B12.out hbc); have qR := Aside0.mk (rbL HRa.out hbc); have qB := Aside0.mk (thL HBa.out (Nat.le_trans hge10 (Nat.le_of_lt (blk_lt B10.out))) hbc); have qF := Aside0.mk (fun g o h h1 h2 h3 => bL (FR.out g o h h1 h2 h3) hbc); have e11 := (blk_cell q11.out 0).trans rfl; have f11 := blk_frozen q11.out 0; clear B3 B5 B10 B11 B12 HRa HBa FR; have HBa := qB; have FR := qF; have B3 := q3; have B5 := q5; have B10 := q10; have B11 := q11; have B12 := q12; have HRa := qR; clear q3 q5 q10 q11 q12 qR qB qF
        refine hK.out _ _ ⟨(blk_cell B5.out 0).trans rfl, (blk_cell B12.out 0).trans rfl, (blk_cell B3.out 0).trans rfl, (blk_cell B3.out 1).trans rfl, (blk_cell B3.out 2).trans rfl, (blk_cell B3.out 3).trans rfl, (blk_cell B3.out 4).trans rfl, (blk_cell B3.out 5).trans rfl⟩ (fun hHeld => ?_)
        clear hK K
        try simp only [Act.put, List.setIfInBounds_toArray, List.set_cons_zero, List.set_cons_succ]
        refine wpAnyH_ready (rs := [0]) (by kernel_rfl) (by simp) ?_
        refine AllReadyH.cons rfl (fun K hK => ?_) ?_
        · skip
          go_simp
          refine hK.out _ _ hHeld (fun hHeld => ?_)
          clear hK K
          try simp only [Act.put, List.setIfInBounds_toArray, List.set_cons_zero, List.set_cons_succ]
          refine wpAnyH_take (i := 11) (v := ?_) rfl (by kernel_rfl) (by kernel_rfl) (by kernel_rfl) (fun _ _ _ h => h) (Or.inl ⟨by rfl, ?_⟩) hHeld ?_
          rotate_left
          · rintro w' ⟨s0, s1, s2, s3, s4, s5, s6, s7⟩
            go_simp
            try with_reducible rfl
          try simp only [Act.put, List.setIfInBounds_toArray, List.set_cons_zero, List.set_cons_succ]
          refine wpAnyH_ready (rs := [12]) (by kernel_rfl) (by simp) ?_
          refine AllReadyH.cons rfl (fun K hK => ?_) ?_
          · skip
            go_simp
            refine hK.out _ _ ⟨(blk_cell (blk_far B5.out (p := ⟨g11, 0, none⟩) m115 _) 0).trans rfl, (blk_cell (blk_far B12.out (p := ⟨g11, 0, none⟩) m1112 _) 0).trans rfl, (blk_cell (blk_far B3.out (p := ⟨g11, 0, none⟩) m113 _) 0).trans rfl, (blk_cell (blk_far B3.out (p := ⟨g11, 0, none⟩) m113 _) 1).trans rfl, (blk_cell (blk_far B3.out (p := ⟨g11, 0, none⟩) m113 _) 2).trans rfl, (blk_cell (blk_far B3.out (p := ⟨g11, 0, none⟩) m113 _) 3).trans rfl, (blk_cell (blk_far B3.out (p := ⟨g11, 0, none⟩) m113 _) 4).trans rfl, (blk_cell (blk_far B3.out (p := ⟨g11, 0, none⟩) m113 _) 5).trans rfl⟩ (fun hHeld => ?_)
            clear hK K
            try simp only [Act.put, List.setIfInBounds_toArray, List.set_cons_zero, List.set_cons_succ]
            refine wpAnyH_done (by kernel_rfl) ?_ _
            refine NoPanic.normal ?_
            go_end0
            refine ⟨rfl, v2, blk_far B10.out (p := ⟨g11, 0, none⟩) m1011 _, blk_put B11.out 0 _ rfl, ?_, HBa.out.setCell (p := ⟨g11, 0, none⟩) hge11 _, fun g o h h1 h2 h3 => (Below.heap_setCell _ ⟨g11, 0, none⟩ _ g h2).trans (FR.out g o h h1 h2 h3)⟩
            rw [if_pos hd, hl2]
            exact Kd.R_far HRa.out (p := ⟨g11, 0, none⟩) (fun _ hk => hk.2.2.2.2.1) _
          exact AllReadyH.nil
        exact AllReadyH.nil
      exact AllReadyH.nil
    exact AllReadyH.nil
  · obtain rfl : d = m := by rw [hm, if_pos (by omega)]
    clear hm
    have hmin : (if kf < d then kf else d) = d := if_neg hd
    go_enter Try.func53, Try.ntmps53
    go_wp2
    have hl2 : l = l := rfl
    have e30 : w.cell? ⟨g3, 0, none⟩ = some (.int .i64 x0) := (blk_cell B3.out 0).trans rfl
    have e31 : w.cell? ⟨g3, 1, none⟩ = some (.int .i64 y0) := (blk_cell B3.out 1).trans rfl
    have e32 : w.cell? ⟨g3, 2, none⟩ = some (.int .i64 z0) := (blk_cell B3.out 2).trans rfl
    have e33 : w.cell? ⟨g3, 3, none⟩ = some (.int .i64 x1) := (blk_cell B3.out 3).trans rfl
    have e34 : w.cell? ⟨g3, 4, none⟩ = some (.int .i64 y1) := (blk_cell B3.out 4).trans rfl
    have e35 : w.cell? ⟨g3, 5, none⟩ = some (.int .i64 z1) := (blk_cell B3.out 5).trans rfl
    have e5 : w.cell? ⟨g5, 0, none⟩ = some (.int .i64 kf) := (blk_cell B5.out 0).trans rfl
    have e12 : w.cell? ⟨g12, 0, none⟩ = some (.int .i64 ax) := (blk_cell B12.out 0).trans rfl
    have e11 : w.cell? ⟨g11, 0, none⟩ = some (.int .i64 lost) := (blk_cell B11.out 0).trans rfl
    have f11 := blk_frozen B11.out 0
    have m113 := blk_ne B3.out B11.out (by decide)
    have m115 := blk_ne B5.out B11.out (by decide)
    have m1112 := blk_ne B12.out B11.out (by decide)
    have m1011 := blk_ne B10.out B11.out (by decide)
    have S3 := Aside0.mk (show w.cell? ⟨g5, 0, none⟩ = some (.int .i64 kf) ∧ w.cell? ⟨g12, 0, none⟩ = some (.int .i64 ax) ∧ w.cell? ⟨g3, 0, none⟩ = some (.int .i64 x0) ∧ w.cell? ⟨g3, 1, none⟩ = some (.int .i64 y0) ∧ w.cell? ⟨g3, 2, none⟩ = some (.int .i64 z0) ∧ w.cell? ⟨g3, 3, none⟩ = some (.int .i64 x1) ∧ w.cell? ⟨g3, 4, none⟩ = some (.int .i64 y1) ∧ w.cell? ⟨g3, 5, none⟩ = some (.int .i64 z1) from ⟨e5, e12, e30, e31, e32, e33, e34, e35⟩)
    refine wp_region_noPanic ?_
    refine wp_region_held_drew (S := (fun w' => w'.cell? ⟨g5, 0, none⟩ = some (.int .i64 kf) ∧ w'.cell? ⟨g12, 0, none⟩ = some (.int .i64 ax) ∧ w'.cell? ⟨g3, 0, none⟩ = some (.int .i64 x0) ∧ w'.cell? ⟨g3, 1, none⟩ = some (.int .i64 y0) ∧ w'.cell? ⟨g3, 2, none⟩ = some (.int .i64 z0) ∧ w'.cell? ⟨g3, 3, none⟩ = some (.int .i64 x1) ∧ w'.cell? ⟨g3, 4, none⟩ = some (.int .i64 y1) ∧ w'.cell? ⟨g3, 5, none⟩ = some (.int .i64 z1))) (by kernel_rfl) S3.out (fun hHeld => ?_)
    refine wpAnyH_take (i := 1) (v := ?_) rfl (by kernel_rfl) (by kernel_rfl) (by kernel_rfl) (fun _ _ _ h => h) (Or.inl ⟨by rfl, ?_⟩) hHeld ?_
    rotate_left
    · rintro w' ⟨s0, s1, s2, s3, s4, s5, s6, s7⟩
      go_simp
      try with_reducible rfl
    try simp only [Act.put, List.setIfInBounds_toArray, List.set_cons_zero, List.set_cons_succ]
    refine wpAnyH_take (i := 2) (v := ?_) rfl (by kernel_rfl) (by kernel_rfl) (by kernel_rfl) (fun _ _ _ h => h) (Or.inl ⟨by rfl, ?_⟩) hHeld ?_
    rotate_left
    · rintro w' ⟨s0, s1, s2, s3, s4, s5, s6, s7⟩
      go_simp
      try with_reducible rfl
    try simp only [Act.put, List.setIfInBounds_toArray, List.set_cons_zero, List.set_cons_succ]
    refine wpAnyH_take (i := 3) (v := ?_) rfl (by kernel_rfl) (by kernel_rfl) (by kernel_rfl) (fun _ _ _ h => h) (Or.inl ⟨by rfl, ?_⟩) hHeld ?_
    rotate_left
    · rintro w' ⟨s0, s1, s2, s3, s4, s5, s6, s7⟩
      go_simp
      try with_reducible rfl
    try simp only [Act.put, List.setIfInBounds_toArray, List.set_cons_zero, List.set_cons_succ]
    refine wpAnyH_take (i := 4) (v := ?_) rfl (by kernel_rfl) (by kernel_rfl) (by kernel_rfl) (fun _ _ _ h => h) (Or.inl ⟨by rfl, ?_⟩) hHeld ?_
    rotate_left
    · rintro w' ⟨s0, s1, s2, s3, s4, s5, s6, s7⟩
      go_simp
      try with_reducible rfl
    try simp only [Act.put, List.setIfInBounds_toArray, List.set_cons_zero, List.set_cons_succ]
    refine wpAnyH_take (i := 5) (v := ?_) rfl (by kernel_rfl) (by kernel_rfl) (by kernel_rfl) (fun _ _ _ h => h) (Or.inl ⟨by rfl, ?_⟩) hHeld ?_
    rotate_left
    · rintro w' ⟨s0, s1, s2, s3, s4, s5, s6, s7⟩
      go_simp
      try with_reducible rfl
    try simp only [Act.put, List.setIfInBounds_toArray, List.set_cons_zero, List.set_cons_succ]
    refine wpAnyH_take (i := 6) (v := ?_) rfl (by kernel_rfl) (by kernel_rfl) (by kernel_rfl) (fun _ _ _ h => h) (Or.inl ⟨by rfl, ?_⟩) hHeld ?_
    rotate_left
    · rintro w' ⟨s0, s1, s2, s3, s4, s5, s6, s7⟩
      go_simp
      try with_reducible rfl
    try simp only [Act.put, List.setIfInBounds_toArray, List.set_cons_zero, List.set_cons_succ]
    refine wpAnyH_take (i := 7) (v := ?_) rfl (by kernel_rfl) (by kernel_rfl) (by kernel_rfl) (fun _ _ _ h => h) (Or.inl ⟨by rfl, ?_⟩) hHeld ?_
    rotate_left
    · rintro w' ⟨s0, s1, s2, s3, s4, s5, s6, s7⟩
      go_simp
      try with_reducible rfl
    try simp only [Act.put, List.setIfInBounds_toArray, List.set_cons_zero, List.set_cons_succ]
    refine wpAnyH_take (i := 8) (v := ?_) rfl (by kernel_rfl) (by kernel_rfl) (by kernel_rfl) (fun _ _ _ h => h) (Or.inl ⟨by rfl, ?_⟩) hHeld ?_
    rotate_left
    · rintro w' ⟨s0, s1, s2, s3, s4, s5, s6, s7⟩
      go_simp
      try with_reducible rfl
    try simp only [Act.put, List.setIfInBounds_toArray, List.set_cons_zero, List.set_cons_succ]
    refine wpAnyH_ready (rs := [0, 9]) (by kernel_rfl) (by simp) ?_
    refine AllReadyH.cons rfl (fun K hK => ?_) ?_
    · skip
      go_simp
      refine hK.out _ _ hHeld (fun hHeld => ?_)
      clear hK K
      try simp only [Act.put, List.setIfInBounds_toArray, List.set_cons_zero, List.set_cons_succ]
      refine wpAnyH_ready (rs := [9]) (by kernel_rfl) (by simp) ?_
      refine AllReadyH.cons rfl (fun K hK => ?_) ?_
      · skip
        go_simp
        go_at_call 43; refine (btwC x0 y0 z0 x1 y1 z1 ax fr (fr + d) hax _).mono ?_; rintro e wA ⟨rfl, hbc⟩; have q3 := Aside0.mk (bL B3.out hbc); have q5 := Aside0.mk (bL B5.out hbc); have q10 := Aside0.mk (bL B10.out hbc); have q11 := Aside0.mk (bL B11.out hbc); have q12 := Aside0.mk (bL B12.out hbc); have qR := Aside0.mk (rbL HRa.out hbc); have qB := Aside0.mk (thL HBa.out (Nat.le_trans hge10 (Nat.le_of_lt (blk_lt B10.out))) hbc); have qF := Aside0.mk (fun g o h h1 h2 h3 => bL (FR.out g o h h1 h2 h3) hbc); have e11 := (blk_cell q11.out 0).trans rfl; have f11 := blk_frozen q11.out 0; clear B3 B5 B10 B11 B12 HRa HBa FR; have HBa := qB; have FR := qF; have B3 := q3; have B5 := q5; have B10 := q10; have B11 := q11; have B12 := q12; have HRa := qR; clear q3 q5 q10 q11 q12 qR qB qF
        refine hK.out _ _ ⟨(blk_cell B5.out 0).trans rfl, (blk_cell B12.out 0).trans rfl, (blk_cell B3.out 0).trans rfl, (blk_cell B3.out 1).trans rfl, (blk_cell B3.out 2).trans rfl, (blk_cell B3.out 3).trans rfl, (blk_cell B3.out 4).trans rfl, (blk_cell B3.out 5).trans rfl⟩ (fun hHeld => ?_)
        clear hK K
        try simp only [Act.put, List.setIfInBounds_toArray, List.set_cons_zero, List.set_cons_succ]
        refine wpAnyH_ready (rs := [10]) (by kernel_rfl) (by simp) ?_
        refine AllReadyH.cons rfl (fun K hK => ?_) ?_
        · skip
          go_simp
          go_at_call 44; refine (volC _ _ _ _ _ _ HIN.out _).mono ?_; rintro e wB ⟨rfl, hbc⟩; have q3 := Aside0.mk (bL B3.out hbc); have q5 := Aside0.mk (bL B5.out hbc); have q10 := Aside0.mk (bL B10.out hbc); have q11 := Aside0.mk (bL B11.out hbc); have q12 := Aside0.mk (bL B12.out hbc); have qR := Aside0.mk (rbL HRa.out hbc); have qB := Aside0.mk (thL HBa.out (Nat.le_trans hge10 (Nat.le_of_lt (blk_lt B10.out))) hbc); have qF := Aside0.mk (fun g o h h1 h2 h3 => bL (FR.out g o h h1 h2 h3) hbc); have e11 := (blk_cell q11.out 0).trans rfl; have f11 := blk_frozen q11.out 0; clear B3 B5 B10 B11 B12 HRa HBa FR; have HBa := qB; have FR := qF; have B3 := q3; have B5 := q5; have B10 := q10; have B11 := q11; have B12 := q12; have HRa := qR; clear q3 q5 q10 q11 q12 qR qB qF
          refine hK.out _ _ ⟨(blk_cell B5.out 0).trans rfl, (blk_cell B12.out 0).trans rfl, (blk_cell B3.out 0).trans rfl, (blk_cell B3.out 1).trans rfl, (blk_cell B3.out 2).trans rfl, (blk_cell B3.out 3).trans rfl, (blk_cell B3.out 4).trans rfl, (blk_cell B3.out 5).trans rfl⟩ (fun hHeld => ?_)
          clear hK K
          try simp only [Act.put, List.setIfInBounds_toArray, List.set_cons_zero, List.set_cons_succ]
          refine wpAnyH_take (i := 11) (v := ?_) rfl (by kernel_rfl) (by kernel_rfl) (by kernel_rfl) (fun _ _ _ h => h) (Or.inl ⟨by rfl, ?_⟩) hHeld ?_
          rotate_left
          · rintro w' ⟨s0, s1, s2, s3, s4, s5, s6, s7⟩
            go_simp
            try with_reducible rfl
          try simp only [Act.put, List.setIfInBounds_toArray, List.set_cons_zero, List.set_cons_succ]
          refine wpAnyH_ready (rs := [12]) (by kernel_rfl) (by simp) ?_
          refine AllReadyH.cons rfl (fun K hK => ?_) ?_
          · skip
            go_simp
            refine hK.out _ _ ⟨(blk_cell (blk_far B5.out (p := ⟨g11, 0, none⟩) m115 _) 0).trans rfl, (blk_cell (blk_far B12.out (p := ⟨g11, 0, none⟩) m1112 _) 0).trans rfl, (blk_cell (blk_far B3.out (p := ⟨g11, 0, none⟩) m113 _) 0).trans rfl, (blk_cell (blk_far B3.out (p := ⟨g11, 0, none⟩) m113 _) 1).trans rfl, (blk_cell (blk_far B3.out (p := ⟨g11, 0, none⟩) m113 _) 2).trans rfl, (blk_cell (blk_far B3.out (p := ⟨g11, 0, none⟩) m113 _) 3).trans rfl, (blk_cell (blk_far B3.out (p := ⟨g11, 0, none⟩) m113 _) 4).trans rfl, (blk_cell (blk_far B3.out (p := ⟨g11, 0, none⟩) m113 _) 5).trans rfl⟩ (fun hHeld => ?_)
            clear hK K
            try simp only [Act.put, List.setIfInBounds_toArray, List.set_cons_zero, List.set_cons_succ]
            refine wpAnyH_done (by kernel_rfl) ?_ _
            refine NoPanic.normal ?_
            go_end0
            refine ⟨rfl, v, blk_far B10.out (p := ⟨g11, 0, none⟩) m1011 _, blk_put B11.out 0 _ rfl, ?_, HBa.out.setCell (p := ⟨g11, 0, none⟩) hge11 _, fun g o h h1 h2 h3 => (Below.heap_setCell _ ⟨g11, 0, none⟩ _ g h2).trans (FR.out g o h h1 h2 h3)⟩
            rw [if_neg (by omega), List.append_nil]
            exact Kd.R_far HRa.out (p := ⟨g11, 0, none⟩) (fun _ hk => hk.2.2.2.2.1) _
          exact AllReadyH.nil
        exact AllReadyH.nil
      exact AllReadyH.nil
    refine AllReadyH.cons rfl (fun K hK => ?_) ?_
    · skip
      go_simp
      go_at_call 43; refine (btwC x0 y0 z0 x1 y1 z1 ax fr (fr + d) hax _).mono ?_; rintro e wA ⟨rfl, hbc⟩; have q3 := Aside0.mk (bL B3.out hbc); have q5 := Aside0.mk (bL B5.out hbc); have q10 := Aside0.mk (bL B10.out hbc); have q11 := Aside0.mk (bL B11.out hbc); have q12 := Aside0.mk (bL B12.out hbc); have qR := Aside0.mk (rbL HRa.out hbc); have qB := Aside0.mk (thL HBa.out (Nat.le_trans hge10 (Nat.le_of_lt (blk_lt B10.out))) hbc); have qF := Aside0.mk (fun g o h h1 h2 h3 => bL (FR.out g o h h1 h2 h3) hbc); have e11 := (blk_cell q11.out 0).trans rfl; have f11 := blk_frozen q11.out 0; clear B3 B5 B10 B11 B12 HRa HBa FR; have HBa := qB; have FR := qF; have B3 := q3; have B5 := q5; have B10 := q10; have B11 := q11; have B12 := q12; have HRa := qR; clear q3 q5 q10 q11 q12 qR qB qF
      refine hK.out _ _ ⟨(blk_cell B5.out 0).trans rfl, (blk_cell B12.out 0).trans rfl, (blk_cell B3.out 0).trans rfl, (blk_cell B3.out 1).trans rfl, (blk_cell B3.out 2).trans rfl, (blk_cell B3.out 3).trans rfl, (blk_cell B3.out 4).trans rfl, (blk_cell B3.out 5).trans rfl⟩ (fun hHeld => ?_)
      clear hK K
      try simp only [Act.put, List.setIfInBounds_toArray, List.set_cons_zero, List.set_cons_succ]
      refine wpAnyH_ready (rs := [0, 10]) (by kernel_rfl) (by simp) ?_
      refine AllReadyH.cons rfl (fun K hK => ?_) ?_
      · skip
        go_simp
        refine hK.out _ _ hHeld (fun hHeld => ?_)
        clear hK K
        try simp only [Act.put, List.setIfInBounds_toArray, List.set_cons_zero, List.set_cons_succ]
        refine wpAnyH_ready (rs := [10]) (by kernel_rfl) (by simp) ?_
        refine AllReadyH.cons rfl (fun K hK => ?_) ?_
        · skip
          go_simp
          go_at_call 44; refine (volC _ _ _ _ _ _ HIN.out _).mono ?_; rintro e wB ⟨rfl, hbc⟩; have q3 := Aside0.mk (bL B3.out hbc); have q5 := Aside0.mk (bL B5.out hbc); have q10 := Aside0.mk (bL B10.out hbc); have q11 := Aside0.mk (bL B11.out hbc); have q12 := Aside0.mk (bL B12.out hbc); have qR := Aside0.mk (rbL HRa.out hbc); have qB := Aside0.mk (thL HBa.out (Nat.le_trans hge10 (Nat.le_of_lt (blk_lt B10.out))) hbc); have qF := Aside0.mk (fun g o h h1 h2 h3 => bL (FR.out g o h h1 h2 h3) hbc); have e11 := (blk_cell q11.out 0).trans rfl; have f11 := blk_frozen q11.out 0; clear B3 B5 B10 B11 B12 HRa HBa FR; have HBa := qB; have FR := qF; have B3 := q3; have B5 := q5; have B10 := q10; have B11 := q11; have B12 := q12; have HRa := qR; clear q3 q5 q10 q11 q12 qR qB qF
          refine hK.out _ _ ⟨(blk_cell B5.out 0).trans rfl, (blk_cell B12.out 0).trans rfl, (blk_cell B3.out 0).trans rfl, (blk_cell B3.out 1).trans rfl, (blk_cell B3.out 2).trans rfl, (blk_cell B3.out 3).trans rfl, (blk_cell B3.out 4).trans rfl, (blk_cell B3.out 5).trans rfl⟩ (fun hHeld => ?_)
          clear hK K
          try simp only [Act.put, List.setIfInBounds_toArray, List.set_cons_zero, List.set_cons_succ]
          refine wpAnyH_take (i := 11) (v := ?_) rfl (by kernel_rfl) (by kernel_rfl) (by kernel_rfl) (fun _ _ _ h => h) (Or.inl ⟨by rfl, ?_⟩) hHeld ?_
          rotate_left
          · rintro w' ⟨s0, s1, s2, s3, s4, s5, s6, s7⟩
            go_simp
            try with_reducible rfl
          try simp only [Act.put, List.setIfInBounds_toArray, List.set_cons_zero, List.set_cons_succ]
          refine wpAnyH_ready (rs := [12]) (by kernel_rfl) (by simp) ?_
          refine AllReadyH.cons rfl (fun K hK => ?_) ?_
          · skip
            go_simp
            refine hK.out _ _ ⟨(blk_cell (blk_far B5.out (p := ⟨g11, 0, none⟩) m115 _) 0).trans rfl, (blk_cell (blk_far B12.out (p := ⟨g11, 0, none⟩) m1112 _) 0).trans rfl, (blk_cell (blk_far B3.out (p := ⟨g11, 0, none⟩) m113 _) 0).trans rfl, (blk_cell (blk_far B3.out (p := ⟨g11, 0, none⟩) m113 _) 1).trans rfl, (blk_cell (blk_far B3.out (p := ⟨g11, 0, none⟩) m113 _) 2).trans rfl, (blk_cell (blk_far B3.out (p := ⟨g11, 0, none⟩) m113 _) 3).trans rfl, (blk_cell (blk_far B3.out (p := ⟨g11, 0, none⟩) m113 _) 4).trans rfl, (blk_cell (blk_far B3.out (p := ⟨g11, 0, none⟩) m113 _) 5).trans rfl⟩ (fun hHeld => ?_)
            clear hK K
            try simp only [Act.put, List.setIfInBounds_toArray, List.set_cons_zero, List.set_cons_succ]
            refine wpAnyH_done (by kernel_rfl) ?_ _
            refine NoPanic.normal ?_
            go_end0
            refine ⟨rfl, v, blk_far B10.out (p := ⟨g11, 0, none⟩) m1011 _, blk_put B11.out 0 _ rfl, ?_, HBa.out.setCell (p := ⟨g11, 0, none⟩) hge11 _, fun g o h h1 h2 h3 => (Below.heap_setCell _ ⟨g11, 0, none⟩ _ g h2).trans (FR.out g o h h1 h2 h3)⟩
            rw [if_neg (by omega), List.append_nil]
            exact Kd.R_far HRa.out (p := ⟨g11, 0, none⟩) (fun _ hk => hk.2.2.2.2.1) _
          exact AllReadyH.nil
        exact AllReadyH.nil
      refine AllReadyH.cons rfl (fun K hK => ?_) ?_
      · skip
        go_simp
        go_at_call 44; refine (volC _ _ _ _ _ _ HIN.out _).mono ?_; rintro e wB ⟨rfl, hbc⟩; have q3 := Aside0.mk (bL B3.out hbc); have q5 := Aside0.mk (bL B5.out hbc); have q10 := Aside0.mk (bL B10.out hbc); have q11 := Aside0.mk (bL B11.out hbc); have q12 := Aside0.mk (bL B12.out hbc); have qR := Aside0.mk (rbL HRa.out hbc); have qB := Aside0.mk (thL HBa.out (Nat.le_trans hge10 (Nat.le_of_lt (blk_lt B10.out))) hbc); have qF := Aside0.mk (fun g o h h1 h2 h3 => bL (FR.out g o h h1 h2 h3) hbc); have e11 := (blk_cell q11.out 0).trans rfl; have f11 := blk_frozen q11.out 0; clear B3 B5 B10 B11 B12 HRa HBa FR; have HBa := qB; have FR := qF; have B3 := q3; have B5 := q5; have B10 := q10; have B11 := q11; have B12 := q12; have HRa := qR; clear q3 q5 q10 q11 q12 qR qB qF
        refine hK.out _ _ ⟨(blk_cell B5.out 0).trans rfl, (blk_cell B12.out 0).trans rfl, (blk_cell B3.out 0).trans rfl, (blk_cell B3.out 1).trans rfl, (blk_cell B3.out 2).trans rfl, (blk_cell B3.out 3).trans rfl, (blk_cell B3.out 4).trans rfl, (blk_cell B3.out 5).trans rfl⟩ (fun hHeld => ?_)
        clear hK K
        try simp only [Act.put, List.setIfInBounds_toArray, List.set_cons_zero, List.set_cons_succ]
        refine wpAnyH_ready (rs := [0]) (by kernel_rfl) (by simp) ?_
        refine AllReadyH.cons rfl (fun K hK => ?_) ?_
        · skip
          go_simp
          refine hK.out _ _ hHeld (fun hHeld => ?_)
          clear hK K
          try simp only [Act.put, List.setIfInBounds_toArray, List.set_cons_zero, List.set_cons_succ]
          refine wpAnyH_take (i := 11) (v := ?_) rfl (by kernel_rfl) (by kernel_rfl) (by kernel_rfl) (fun _ _ _ h => h) (Or.inl ⟨by rfl, ?_⟩) hHeld ?_
          rotate_left
          · rintro w' ⟨s0, s1, s2, s3, s4, s5, s6, s7⟩
            go_simp
            try with_reducible rfl
          try simp only [Act.put, List.setIfInBounds_toArray, List.set_cons_zero, List.set_cons_succ]
          refine wpAnyH_ready (rs := [12]) (by kernel_rfl) (by simp) ?_
          refine AllReadyH.cons rfl (fun K hK => ?_) ?_
          · skip
            go_simp
            refine hK.out _ _ ⟨(blk_cell (blk_far B5.out (p := ⟨g11, 0, none⟩) m115 _) 0).trans rfl, (blk_cell (blk_far B12.out (p := ⟨g11, 0, none⟩) m1112 _) 0).trans rfl, (blk_cell (blk_far B3.out (p := ⟨g11, 0, none⟩) m113 _) 0).trans rfl, (blk_cell (blk_far B3.out (p := ⟨g11, 0, none⟩) m113 _) 1).trans rfl, (blk_cell (blk_far B3.out (p := ⟨g11, 0, none⟩) m113 _) 2).trans rfl, (blk_cell (blk_far B3.out (p := ⟨g11, 0, none⟩) m113 _) 3).trans rfl, (blk_cell (blk_far B3.out (p := ⟨g11, 0, none⟩) m113 _) 4).trans rfl, (blk_cell (blk_far B3.out (p := ⟨g11, 0, none⟩) m113 _) 5).trans rfl⟩ (fun hHeld => ?_)
            clear hK K
            try simp only [Act.put, List.setIfInBounds_toArray, List.set_cons_zero, List.set_cons_succ]
            refine wpAnyH_done (by kernel_rfl) ?_ _
            refine NoPanic.normal ?_
            go_end0
            refine ⟨rfl, v, blk_far B10.out (p := ⟨g11, 0, none⟩) m1011 _, blk_put B11.out 0 _ rfl, ?_, HBa.out.setCell (p := ⟨g11, 0, none⟩) hge11 _, fun g o h h1 h2 h3 => (Below.heap_setCell _ ⟨g11, 0, none⟩ _ g h2).trans (FR.out g o h h1 h2 h3)⟩
            rw [if_neg (by omega), List.append_nil]
            exact Kd.R_far HRa.out (p := ⟨g11, 0, none⟩) (fun _ hk => hk.2.2.2.2.1) _
          exact AllReadyH.nil
        exact AllReadyH.nil
      exact AllReadyH.nil
    exact AllReadyH.nil
end Go.Proofs.Ytdfcphfoccgopaa.KT
