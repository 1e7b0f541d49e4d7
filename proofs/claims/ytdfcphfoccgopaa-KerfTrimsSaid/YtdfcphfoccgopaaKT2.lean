/- The kerf seat: kerf.Trim, walked by hand. -/
import Derived.Test.YtdfcphfoccgopaaKT1
namespace Go.Proofs.Ytdfcphfoccgopaa.KT
open Go.Sx Go.RowKit Go.Proofs.Ytdfcphfoccgopaa Go.Proofs.YtdfcphfoccgopaaW.PrintWords Go.Proofs.YtdfcphfoccgopaaW.PrintLast Go.Proofs.YtdfcphfoccgopaaW.PrintMore
set_option linter.unusedVariables false
set_option linter.unusedSimpArgs false
attribute [local go_sem] max2_int min2_int max_two min_two
def kfE (k : Int) : Int := if inK k = true then 0 else 6
theorem chkBC (x0 y0 z0 x1 y1 z1 : Int) (w : World) :
    Calls Try.prog 46 #[.agg #[.int .i64 x0, .int .i64 y0, .int .i64 z0, .int .i64 x1, .int .i64 y1, .int .i64 z1]] w fun e w' => e = .returned (.int .i64 (chkB x0 y0 z0 x1 y1 z1)) ∧ Below w.heap.size w w' :=
  gv (f := 46) ⟨[iv 6], [i1], none, none, none⟩ c46 rfl rfl rfl (by kernel_rfl) [.int x0, .int y0, .int z0, .int x1, .int y1, .int z1] w ⟨⟨_, rfl⟩, ⟨_, rfl⟩, ⟨_, rfl⟩, ⟨_, rfl⟩, ⟨_, rfl⟩, ⟨_, rfl⟩, trivial⟩ rfl
theorem sawC (n : Int) (w : World) :
    Calls Try.prog 48 #[.int .i64 n] w fun e w' => e = .returned (.int .i64 (swn0 n)) ∧ Below w.heap.size w w' :=
  gv (f := 48) ⟨[i1], [i1], none, none, none⟩ c48 rfl rfl rfl (by kernel_rfl) [.int n] w ⟨⟨_, rfl⟩, trivial⟩ rfl
theorem endC (x0 y0 z0 x1 y1 z1 ax : Int) (hp : inA ax = true) (w : World) :
    Calls Try.prog 42 #[.agg #[.int .i64 x0, .int .i64 y0, .int .i64 z0, .int .i64 x1, .int .i64 y1, .int .i64 z1], .int .i64 ax] w fun e w' => e = .returned (.tuple #[.int .i64 (gx x0 y0 z0 ax), .int .i64 (gx x1 y1 z1 ax)]) ∧ Below w.heap.size w w' :=
  gv (f := 42) ⟨[iv 6, i1], [i1, i1], none, none, none⟩ c42 rfl rfl rfl (by kernel_rfl) [.int x0, .int y0, .int z0, .int x1, .int y1, .int z1, .int ax] w ⟨⟨_, rfl⟩, ⟨_, rfl⟩, ⟨_, rfl⟩, ⟨_, rfl⟩, ⟨_, rfl⟩, ⟨_, rfl⟩, ⟨_, rfl⟩, trivial⟩ hp
theorem insC (x0 y0 z0 x1 y1 z1 a0 b0 c0 a1 b1 c1 : Int) (w : World) :
    Calls Try.prog 52 #[.agg #[.int .i64 x0, .int .i64 y0, .int .i64 z0, .int .i64 x1, .int .i64 y1, .int .i64 z1], .agg #[.int .i64 a0, .int .i64 b0, .int .i64 c0, .int .i64 a1, .int .i64 b1, .int .i64 c1]] w fun e w' => e = .returned (.bool (insE x0 y0 z0 x1 y1 z1 a0 b0 c0 a1 b1 c1)) ∧ Below w.heap.size w w' :=
  gv (f := 52) ⟨[iv 6, iv 6], [sb], none, none, none⟩ c52 rfl rfl rfl (by kernel_rfl) [.int x0, .int y0, .int z0, .int x1, .int y1, .int z1, .int a0, .int b0, .int c0, .int a1, .int b1, .int c1] w ⟨⟨_, rfl⟩, ⟨_, rfl⟩, ⟨_, rfl⟩, ⟨_, rfl⟩, ⟨_, rfl⟩, ⟨_, rfl⟩, ⟨_, rfl⟩, ⟨_, rfl⟩, ⟨_, rfl⟩, ⟨_, rfl⟩, ⟨_, rfl⟩, ⟨_, rfl⟩, trivial⟩ rfl
theorem firC (g : Nat) (x y z : Int) (w : World) (t : Nat) (h : w.heap[g]? = some (.cells #[.int .i64 x, .int .i64 y, .int .i64 z] t (0, 0))) :
    Calls Try.prog 45 #[.slice (some ⟨g, 0, none⟩) 3 3] w fun e w' => e = .returned (.int .i64 (firstE [x, y, z])) ∧ w' = w := by
  refine walk45 [x, y, z] g 0 3 w (by simp) (by simp) (fun i u hi => ?_)
  match i, hi with
  | 0, hi => cases hi; exact (blk_cell h 0).trans rfl
  | 1, hi => cases hi; exact (blk_cell h 1).trans rfl
  | 2, hi => cases hi; exact (blk_cell h 2).trans rfl
/-- What is cut off on one side: the list and the loss. -/
def sdL {S : Type} (mk : Int → Int → Int → S) (ax kf d p : Int) (l : List S) : List S := l ++ if kf < d then [mk ax p kf] else []
def sdV (x0 y0 z0 x1 y1 z1 ax kf d fr lost : Int) : Int :=
  IntKind.i64.wrap (lost + volE (pX x0 ax fr) (pY y0 ax fr) (pZ z0 ax fr) (pX x1 ax (fr + (if d ≤ kf then d else kf))) (pY y1 ax (fr + (if d ≤ kf then d else kf))) (pZ z1 ax (fr + (if d ≤ kf then d else kf))))
/-- The rounds: axis, box, list and loss. -/
def tr {S : Type} (mk : Int → Int → Int → S) (p0 q0 r0 p1 q1 r1 kf : Int) : Nat → Int → Int → Int → Int → Int → Int → Int → List S → Int → List S × Int
  | 0, ax, x0, y0, z0, x1, y1, z1, l, lost => (l, lost)
  | n + 1, ax, x0, y0, z0, x1, y1, z1, l, lost =>
    if gx x0 y0 z0 ax < gx p0 q0 r0 ax then
      (if gx p1 q1 r1 ax < gx x1 y1 z1 ax then
        tr mk p0 q0 r0 p1 q1 r1 kf n (ax + 1) (pX x0 ax (gx p0 q0 r0 ax)) (pY y0 ax (gx p0 q0 r0 ax)) (pZ z0 ax (gx p0 q0 r0 ax)) (pX x1 ax (gx p1 q1 r1 ax)) (pY y1 ax (gx p1 q1 r1 ax)) (pZ z1 ax (gx p1 q1 r1 ax))
          (sdL mk ax kf (gx x1 y1 z1 ax - gx p1 q1 r1 ax) (gx p1 q1 r1 ax) (sdL mk ax kf (gx p0 q0 r0 ax - gx x0 y0 z0 ax) (gx p0 q0 r0 ax - kf) l))
          (sdV (pX x0 ax (gx p0 q0 r0 ax)) (pY y0 ax (gx p0 q0 r0 ax)) (pZ z0 ax (gx p0 q0 r0 ax)) (pX x1 ax (gx x1 y1 z1 ax)) (pY y1 ax (gx x1 y1 z1 ax)) (pZ z1 ax (gx x1 y1 z1 ax)) ax kf (gx x1 y1 z1 ax - gx p1 q1 r1 ax) (gx p1 q1 r1 ax) (sdV x0 y0 z0 x1 y1 z1 ax kf (gx p0 q0 r0 ax - gx x0 y0 z0 ax) (gx x0 y0 z0 ax) lost))
      else
        tr mk p0 q0 r0 p1 q1 r1 kf n (ax + 1) (pX x0 ax (gx p0 q0 r0 ax)) (pY y0 ax (gx p0 q0 r0 ax)) (pZ z0 ax (gx p0 q0 r0 ax)) (pX x1 ax (gx x1 y1 z1 ax)) (pY y1 ax (gx x1 y1 z1 ax)) (pZ z1 ax (gx x1 y1 z1 ax))
          (sdL mk ax kf (gx p0 q0 r0 ax - gx x0 y0 z0 ax) (gx p0 q0 r0 ax - kf) l) (sdV x0 y0 z0 x1 y1 z1 ax kf (gx p0 q0 r0 ax - gx x0 y0 z0 ax) (gx x0 y0 z0 ax) lost))
    else
      (if gx p1 q1 r1 ax < gx x1 y1 z1 ax then
        tr mk p0 q0 r0 p1 q1 r1 kf n (ax + 1) (pX x0 ax (gx p0 q0 r0 ax)) (pY y0 ax (gx p0 q0 r0 ax)) (pZ z0 ax (gx p0 q0 r0 ax)) (pX x1 ax (gx p1 q1 r1 ax)) (pY y1 ax (gx p1 q1 r1 ax)) (pZ z1 ax (gx p1 q1 r1 ax))
          (sdL mk ax kf (gx x1 y1 z1 ax - gx p1 q1 r1 ax) (gx p1 q1 r1 ax) l)
          (sdV x0 y0 z0 x1 y1 z1 ax kf (gx x1 y1 z1 ax - gx p1 q1 r1 ax) (gx p1 q1 r1 ax) lost)
      else tr mk p0 q0 r0 p1 q1 r1 kf n (ax + 1) x0 y0 z0 x1 y1 z1 l lost)
def trE (a0 b0 c0 a1 b1 c1 p0 q0 r0 p1 q1 r1 kf : Int) : Int :=
  if firstE [chkB a0 b0 c0 a1 b1 c1, chkB p0 q0 r0 p1 q1 r1, swn0 kf] = 0 then (if insE p0 q0 r0 p1 q1 r1 a0 b0 c0 a1 b1 c1 = true then 0 else 12) else firstE [chkB a0 b0 c0 a1 b1 c1, chkB p0 q0 r0 p1 q1 r1, swn0 kf]
def trV (a0 b0 c0 a1 b1 c1 p0 q0 r0 p1 q1 r1 kf : Int) : Int :=
  if trE a0 b0 c0 a1 b1 c1 p0 q0 r0 p1 q1 r1 kf = 0 then (tr (fun a b c => (a, b, c)) p0 q0 r0 p1 q1 r1 kf 3 0 a0 b0 c0 a1 b1 c1 [] 0).2 else 0
def trL {S : Type} (mk : Int → Int → Int → S) (a0 b0 c0 a1 b1 c1 p0 q0 r0 p1 q1 r1 kf : Int) : List S :=
  if trE a0 b0 c0 a1 b1 c1 p0 q0 r0 p1 q1 r1 kf = 0 then (tr mk p0 q0 r0 p1 q1 r1 kf 3 0 a0 b0 c0 a1 b1 c1 [] 0).1 else []
def Inv (x0 y0 z0 x1 y1 z1 p0 q0 r0 p1 q1 r1 : Int) : Prop :=
  (-1000000 ≤ x0 ∧ x0 ≤ p0 ∧ p0 < p1 ∧ p1 ≤ x1 ∧ x1 ≤ 1000000) ∧ (-1000000 ≤ y0 ∧ y0 ≤ q0 ∧ q0 < q1 ∧ q1 ≤ y1 ∧ y1 ≤ 1000000) ∧ (-1000000 ≤ z0 ∧ z0 ≤ r0 ∧ r0 < r1 ∧ r1 ≤ z1 ∧ z1 ≤ 1000000)
theorem inv_gx {x0 y0 z0 x1 y1 z1 p0 q0 r0 p1 q1 r1 : Int} (h : Inv x0 y0 z0 x1 y1 z1 p0 q0 r0 p1 q1 r1) (ax : Int) :
    -1000000 ≤ gx x0 y0 z0 ax ∧ gx x0 y0 z0 ax ≤ gx p0 q0 r0 ax ∧ gx p0 q0 r0 ax < gx p1 q1 r1 ax ∧ gx p1 q1 r1 ax ≤ gx x1 y1 z1 ax ∧ gx x1 y1 z1 ax ≤ 1000000 := by
  obtain ⟨h1, h2, h3⟩ := h
  unfold gx
  split
  · exact h1
  · split
    · exact h2
    · exact h3
theorem inv_put {x0 y0 z0 x1 y1 z1 p0 q0 r0 p1 q1 r1 : Int} (h : Inv x0 y0 z0 x1 y1 z1 p0 q0 r0 p1 q1 r1) (ax lo hi : Int) (h0 : -1000000 ≤ lo) (h1 : lo ≤ gx p0 q0 r0 ax) (h2 : gx p1 q1 r1 ax ≤ hi) (h3 : hi ≤ 1000000) :
    Inv (pX x0 ax lo) (pY y0 ax lo) (pZ z0 ax lo) (pX x1 ax hi) (pY y1 ax hi) (pZ z1 ax hi) p0 q0 r0 p1 q1 r1 := by
  obtain ⟨a, b, c⟩ := h
  unfold gx at h1 h2
  unfold Inv pX pY pZ
  by_cases e0 : ax = 0
  · subst e0
    simp at h1 h2 ⊢
    omega
  · by_cases e1 : ax = 1
    · subst e1
      simp at h1 h2 ⊢
      omega
    · by_cases e2 : ax = 2
      · subst e2
        simp at h1 h2 ⊢
        omega
      · simp only [e0, e1, e2, if_false]
        omega
theorem inB_put {x0 y0 z0 x1 y1 z1 p0 q0 r0 p1 q1 r1 : Int} (h : Inv x0 y0 z0 x1 y1 z1 p0 q0 r0 p1 q1 r1) (ax lo hi : Int) (h0 : -1000000 ≤ lo ∧ lo ≤ 1000000) (h1 : -1000000 ≤ hi ∧ hi ≤ 1000000) :
    inB (pX x0 ax lo) (pY y0 ax lo) (pZ z0 ax lo) (pX x1 ax hi) (pY y1 ax hi) (pZ z1 ax hi) = true := by
  obtain ⟨a, b, c⟩ := h
  unfold inB in3 inC pX pY pZ
  simp only [Bool.and_eq_true, decide_eq_true_eq]
  refine ⟨⟨⟨?_, ?_⟩, ?_⟩, ⟨?_, ?_⟩, ?_⟩ <;> split <;> omega
theorem inv_of {a0 b0 c0 a1 b1 c1 p0 q0 r0 p1 q1 r1 kf : Int} (h : firstE [chkB a0 b0 c0 a1 b1 c1, chkB p0 q0 r0 p1 q1 r1, swn0 kf] = 0) (hi : insE p0 q0 r0 p1 q1 r1 a0 b0 c0 a1 b1 c1 = true) :
    Inv a0 b0 c0 a1 b1 c1 p0 q0 r0 p1 q1 r1 ∧ 0 ≤ kf ∧ kf ≤ 1000 := by
  simp only [firstE] at h
  split at h
  · rename_i h1
    split at h
    · rename_i h2
      split at h
      · rename_i h3
        unfold chkB inB in3 inC at h1 h2
        unfold swn0 inK at h3
        unfold insE at hi
        simp only [Bool.and_eq_true, decide_eq_true_eq] at h1 h2 h3 hi
        split at h1
        · split at h1
          · split at h2
            · split at h2
              · split at h3
                · unfold Inv
                  omega
                · omega
              · omega
            · omega
          · omega
        · omega
      · exact absurd h (by assumption)
    · exact absurd h (by assumption)
  · exact absurd h (by assumption)
theorem st6_put {w : World} {g : Nat} {t : TypeId} {a b c d e f : Value} (h : w.heap[g]? = some (.cells #[a, b, c, d, e, f] t (0, 0))) (u0 u1 u2 u3 u4 u5 : Value) :
    ((((((w.setCell ⟨g, 0, none⟩ u0).setCell ⟨g, 1, none⟩ u1).setCell ⟨g, 2, none⟩ u2).setCell ⟨g, 3, none⟩ u3).setCell ⟨g, 4, none⟩ u4).setCell ⟨g, 5, none⟩ u5).heap[g]? = some (.cells #[u0, u1, u2, u3, u4, u5] t (0, 0)) :=
  blk_put (blk_put (blk_put (blk_put (blk_put (blk_put h 0 u0 rfl) 1 u1 rfl) 2 u2 rfl) 3 u3 rfl) 4 u4 rfl) 5 u5 rfl
theorem st6_far {w : World} {g g' : Nat} {t : TypeId} {cs : Array Value} (h : w.heap[g']? = some (.cells cs t (0, 0))) (hn : g' ≠ g) (u0 u1 u2 u3 u4 u5 : Value) :
    ((((((w.setCell ⟨g, 0, none⟩ u0).setCell ⟨g, 1, none⟩ u1).setCell ⟨g, 2, none⟩ u2).setCell ⟨g, 3, none⟩ u3).setCell ⟨g, 4, none⟩ u4).setCell ⟨g, 5, none⟩ u5).heap[g']? = some (.cells cs t (0, 0)) :=
  blk_far (p := ⟨g, 5, none⟩) (blk_far (p := ⟨g, 4, none⟩) (blk_far (p := ⟨g, 3, none⟩) (blk_far (p := ⟨g, 2, none⟩) (blk_far (p := ⟨g, 1, none⟩) (blk_far (p := ⟨g, 0, none⟩) h hn u0) hn u1) hn u2) hn u3) hn u4) hn u5
theorem st6_R {S : Type} {k : Kd S} {e base : Nat} {w : World} {ok : Nat → Prop} {v : Value} {l : List S} {g : Nat} (h : k.R e w base ok v l) (hn : ∀ j, ok j → j ≠ g) (u0 u1 u2 u3 u4 u5 : Value) :
    k.R e ((((((w.setCell ⟨g, 0, none⟩ u0).setCell ⟨g, 1, none⟩ u1).setCell ⟨g, 2, none⟩ u2).setCell ⟨g, 3, none⟩ u3).setCell ⟨g, 4, none⟩ u4).setCell ⟨g, 5, none⟩ u5) base ok v l :=
  Kd.R_far (p := ⟨g, 5, none⟩) (Kd.R_far (p := ⟨g, 4, none⟩) (Kd.R_far (p := ⟨g, 3, none⟩) (Kd.R_far (p := ⟨g, 2, none⟩) (Kd.R_far (p := ⟨g, 1, none⟩) (Kd.R_far (p := ⟨g, 0, none⟩) h hn u0) hn u1) hn u2) hn u3) hn u4) hn u5
theorem st6_B {w0 w : World} {g : Nat} (h : Below w0.heap.size w0 w) (hn : w0.heap.size ≤ g) (u0 u1 u2 u3 u4 u5 : Value) :
    Below w0.heap.size w0 ((((((w.setCell ⟨g, 0, none⟩ u0).setCell ⟨g, 1, none⟩ u1).setCell ⟨g, 2, none⟩ u2).setCell ⟨g, 3, none⟩ u3).setCell ⟨g, 4, none⟩ u4).setCell ⟨g, 5, none⟩ u5) :=
  below_set (below_set (below_set (below_set (below_set (below_set h hn) hn) hn) hn) hn) hn
theorem sdL_len {S : Type} (mk : Int → Int → Int → S) (ax kf d p : Int) (l : List S) : (sdL mk ax kf d p l).length ≤ l.length + 1 := by
  unfold sdL
  split <;> simp
abbrev OK5 (g3 g4 g5 g10 g11 : Nat) (j : Nat) : Prop := j ≠ g3 ∧ j ≠ g4 ∧ j ≠ g5 ∧ j ≠ g10 ∧ j ≠ g11
/-- The list's kind does not matter to the loss. -/
theorem tr_snd {S T : Type} (mk : Int → Int → Int → S) (mk' : Int → Int → Int → T) (p0 q0 r0 p1 q1 r1 kf : Int) : ∀ (n : Nat) (ax x0 y0 z0 x1 y1 z1 : Int) (l : List S) (l' : List T) (lost : Int),
    (tr mk p0 q0 r0 p1 q1 r1 kf n ax x0 y0 z0 x1 y1 z1 l lost).2 = (tr mk' p0 q0 r0 p1 q1 r1 kf n ax x0 y0 z0 x1 y1 z1 l' lost).2
  | 0, _, _, _, _, _, _, _, _, _, _ => rfl
  | n + 1, ax, x0, y0, z0, x1, y1, z1, l, l', lost => by
    simp only [tr]
    split
    · split
      · exact tr_snd mk mk' p0 q0 r0 p1 q1 r1 kf n _ _ _ _ _ _ _ _ _ _
      · exact tr_snd mk mk' p0 q0 r0 p1 q1 r1 kf n _ _ _ _ _ _ _ _ _ _
    · split
      · exact tr_snd mk mk' p0 q0 r0 p1 q1 r1 kf n _ _ _ _ _ _ _ _ _ _
      · exact tr_snd mk mk' p0 q0 r0 p1 q1 r1 kf n _ _ _ _ _ _ _ _ _ _
theorem endD (x0 y0 z0 x1 y1 z1 ax lo hi : Int) (h1 : lo = gx x0 y0 z0 ax) (h2 : hi = gx x1 y1 z1 ax) (hp : inA ax = true) (w : World) :
    Calls Try.prog 42 #[.agg #[.int .i64 x0, .int .i64 y0, .int .i64 z0, .int .i64 x1, .int .i64 y1, .int .i64 z1], .int .i64 ax] w fun e w' => e = .returned (.tuple #[.int .i64 lo, .int .i64 hi]) ∧ Below w.heap.size w w' := by
  rw [h1, h2]; exact endC x0 y0 z0 x1 y1 z1 ax hp w
theorem pX2 (x ax a b : Int) : pX (pX x ax a) ax b = pX x ax b := by unfold pX; split <;> rfl
theorem pY2 (x ax a b : Int) : pY (pY x ax a) ax b = pY x ax b := by unfold pY; split <;> rfl
theorem pZ2 (x ax a b : Int) : pZ (pZ x ax a) ax b = pZ x ax b := by unfold pZ; split <;> rfl
theorem btwD (x0 y0 z0 x1 y1 z1 ax a b lo hi : Int) (hp : inA ax = true) (w : World) :
    Calls Try.prog 43 #[.agg #[.int .i64 (pX x0 ax a), .int .i64 (pY y0 ax a), .int .i64 (pZ z0 ax a), .int .i64 (pX x1 ax b), .int .i64 (pY y1 ax b), .int .i64 (pZ z1 ax b)], .int .i64 ax, .int .i64 lo, .int .i64 hi] w fun e w' => e = .returned (.agg #[.int .i64 (pX x0 ax lo), .int .i64 (pY y0 ax lo), .int .i64 (pZ z0 ax lo), .int .i64 (pX x1 ax hi), .int .i64 (pY y1 ax hi), .int .i64 (pZ z1 ax hi)]) ∧ Below w.heap.size w w' := by
  have h := btwC (pX x0 ax a) (pY y0 ax a) (pZ z0 ax a) (pX x1 ax b) (pY y1 ax b) (pZ z1 ax b) ax lo hi hp w
  rw [pX2, pY2, pZ2, pX2, pY2, pZ2] at h
  exact h
set_option maxHeartbeats 8000000 in
theorem trim0 {S : Type} (k : Kd S) (mk : Int → Int → Int → S) (hM : ∀ w base ok a b c, k.M w base ok (mk a b c) [.int .i64 a, .int .i64 b, .int .i64 c]) (hsz : k.sz = 3)
    (a0 b0 c0 a1 b1 c1 : Int) (p0 q0 r0 p1 q1 r1 : Int) (kf : Int) (w : World) :
    Calls Try.prog 34 #[.agg #[.int .i64 a0, .int .i64 b0, .int .i64 c0, .int .i64 a1, .int .i64 b1, .int .i64 c1], .agg #[.int .i64 p0, .int .i64 q0, .int .i64 r0, .int .i64 p1, .int .i64 q1, .int .i64 r1], .int .i64 kf] w fun e w' => ∃ v0, e = .returned (.tuple #[v0, .int .i64 (trV a0 b0 c0 a1 b1 c1 p0 q0 r0 p1 q1 r1 kf), .int .i64 (trE a0 b0 c0 a1 b1 c1 p0 q0 r0 p1 q1 r1 kf)]) ∧ k.R 33 w' w.heap.size (fun _ => True) v0 (trL mk a0 b0 c0 a1 b1 c1 p0 q0 r0 p1 q1 r1 kf) ∧ Below w.heap.size w w' := by
  have HB := Aside0.mk (Below.refl w.heap.size w)
  obtain ⟨RE, hRE⟩ : ∃ RE, RE = trE a0 b0 c0 a1 b1 c1 p0 q0 r0 p1 q1 r1 kf := ⟨_, rfl⟩
  obtain ⟨RL, hRL⟩ : ∃ RL, RL = trL mk a0 b0 c0 a1 b1 c1 p0 q0 r0 p1 q1 r1 kf := ⟨_, rfl⟩
  obtain ⟨RV, hRV⟩ : ∃ RV, RV = trV a0 b0 c0 a1 b1 c1 p0 q0 r0 p1 q1 r1 kf := ⟨_, rfl⟩
  rw [← hRL, ← hRV, ← hRE]
  go_enter Try.func34, Try.ntmps34
  go_wp2_with (first | ((with_reducible refine gate_dst (N := 3) rfl ?_); refine box_event ?hg (N := 3) ?hd (cs := #[.int .i64 a0, .int .i64 b0, .int .i64 c0, .int .i64 a1, .int .i64 b1, .int .i64 c1]) (t := 25) ?hr ?_; (case hd => rfl); (case hg => rfl); (case hr => first | (go_simp; done) | (go_simp; rfl)); intro g3 hg w3 hbox hb; have GE_g3 : w.heap.size ≤ g3 := (by rw [hg]; exact (below_size (blL HB.out))); have nB_ := Aside0.mk (bbL HB.out hb); clear HB; have HB := nB_; clear  nB_; have B_g3 := Aside0.mk hbox; clear hb hbox hg) | ((with_reducible refine gate_dst (N := 4) rfl ?_); refine box_event ?hg (N := 4) ?hd (cs := #[.int .i64 p0, .int .i64 q0, .int .i64 r0, .int .i64 p1, .int .i64 q1, .int .i64 r1]) (t := 25) ?hr ?_; (case hd => rfl); (case hg => rfl); (case hr => first | (go_simp; done) | (go_simp; rfl)); intro g4 hg w4 hbox hb; have GE_g4 : w.heap.size ≤ g4 := (by rw [hg]; exact (below_size (blL HB.out))); have NE_g3_g4 : g3 ≠ g4 := (by rw [hg]; exact Nat.ne_of_lt (lL B_g3.out)); have NE_g4_g3 := NE_g3_g4.symm; have n0_ := Aside0.mk (bL B_g3.out hb); have nB_ := Aside0.mk (bbL HB.out hb); clear B_g3 HB; have B_g3 := n0_; have HB := nB_; clear n0_ nB_; have B_g4 := Aside0.mk hbox; clear hb hbox hg) | ((with_reducible refine gate_dst (N := 5) rfl ?_); refine box_event ?hg (N := 5) ?hd (cs := #[.int .i64 kf]) (t := 3) ?hr ?_; (case hd => rfl); (case hg => rfl); (case hr => first | (go_simp; done) | (go_simp; rfl)); intro g5 hg w5 hbox hb; have GE_g5 : w.heap.size ≤ g5 := (by rw [hg]; exact (below_size (blL HB.out))); have NE_g3_g5 : g3 ≠ g5 := (by rw [hg]; exact Nat.ne_of_lt (lL B_g3.out)); have NE_g5_g3 := NE_g3_g5.symm; have NE_g4_g5 : g4 ≠ g5 := (by rw [hg]; exact Nat.ne_of_lt (lL B_g4.out)); have NE_g5_g4 := NE_g4_g5.symm; have n0_ := Aside0.mk (bL B_g3.out hb); have n1_ := Aside0.mk (bL B_g4.out hb); have nB_ := Aside0.mk (bbL HB.out hb); clear B_g3 B_g4 HB; have B_g3 := n0_; have B_g4 := n1_; have HB := nB_; clear n0_ n1_ nB_; have B_g5 := Aside0.mk hbox; clear hb hbox hg))
  have hc_g3_0 : w5.cell? ⟨g3, 0, none⟩ = some (.int .i64 a0) := (blk_cell B_g3.out 0).trans rfl
  have hf_g3_0 := blk_frozen B_g3.out 0
  have hc_g3_1 : w5.cell? ⟨g3, 1, none⟩ = some (.int .i64 b0) := (blk_cell B_g3.out 1).trans rfl
  have hf_g3_1 := blk_frozen B_g3.out 1
  have hc_g3_2 : w5.cell? ⟨g3, 2, none⟩ = some (.int .i64 c0) := (blk_cell B_g3.out 2).trans rfl
  have hf_g3_2 := blk_frozen B_g3.out 2
  have hc_g3_3 : w5.cell? ⟨g3, 3, none⟩ = some (.int .i64 a1) := (blk_cell B_g3.out 3).trans rfl
  have hf_g3_3 := blk_frozen B_g3.out 3
  have hc_g3_4 : w5.cell? ⟨g3, 4, none⟩ = some (.int .i64 b1) := (blk_cell B_g3.out 4).trans rfl
  have hf_g3_4 := blk_frozen B_g3.out 4
  have hc_g3_5 : w5.cell? ⟨g3, 5, none⟩ = some (.int .i64 c1) := (blk_cell B_g3.out 5).trans rfl
  have hf_g3_5 := blk_frozen B_g3.out 5
  have hc_g4_0 : w5.cell? ⟨g4, 0, none⟩ = some (.int .i64 p0) := (blk_cell B_g4.out 0).trans rfl
  have hf_g4_0 := blk_frozen B_g4.out 0
  have hc_g4_1 : w5.cell? ⟨g4, 1, none⟩ = some (.int .i64 q0) := (blk_cell B_g4.out 1).trans rfl
  have hf_g4_1 := blk_frozen B_g4.out 1
  have hc_g4_2 : w5.cell? ⟨g4, 2, none⟩ = some (.int .i64 r0) := (blk_cell B_g4.out 2).trans rfl
  have hf_g4_2 := blk_frozen B_g4.out 2
  have hc_g4_3 : w5.cell? ⟨g4, 3, none⟩ = some (.int .i64 p1) := (blk_cell B_g4.out 3).trans rfl
  have hf_g4_3 := blk_frozen B_g4.out 3
  have hc_g4_4 : w5.cell? ⟨g4, 4, none⟩ = some (.int .i64 q1) := (blk_cell B_g4.out 4).trans rfl
  have hf_g4_4 := blk_frozen B_g4.out 4
  have hc_g4_5 : w5.cell? ⟨g4, 5, none⟩ = some (.int .i64 r1) := (blk_cell B_g4.out 5).trans rfl
  have hf_g4_5 := blk_frozen B_g4.out 5
  have hc_g5_0 : w5.cell? ⟨g5, 0, none⟩ = some (.int .i64 kf) := (blk_cell B_g5.out 0).trans rfl
  have hf_g5_0 := blk_frozen B_g5.out 0
  have S0 := Aside0.mk (show w5.cell? ⟨g3, 0, none⟩ = some (.int .i64 a0) ∧ w5.cell? ⟨g3, 1, none⟩ = some (.int .i64 b0) ∧ w5.cell? ⟨g3, 2, none⟩ = some (.int .i64 c0) ∧ w5.cell? ⟨g3, 3, none⟩ = some (.int .i64 a1) ∧ w5.cell? ⟨g3, 4, none⟩ = some (.int .i64 b1) ∧ w5.cell? ⟨g3, 5, none⟩ = some (.int .i64 c1) ∧ w5.cell? ⟨g4, 0, none⟩ = some (.int .i64 p0) ∧ w5.cell? ⟨g4, 1, none⟩ = some (.int .i64 q0) ∧ w5.cell? ⟨g4, 2, none⟩ = some (.int .i64 r0) ∧ w5.cell? ⟨g4, 3, none⟩ = some (.int .i64 p1) ∧ w5.cell? ⟨g4, 4, none⟩ = some (.int .i64 q1) ∧ w5.cell? ⟨g4, 5, none⟩ = some (.int .i64 r1) ∧ w5.cell? ⟨g5, 0, none⟩ = some (.int .i64 kf) from ⟨hc_g3_0, hc_g3_1, hc_g3_2, hc_g3_3, hc_g3_4, hc_g3_5, hc_g4_0, hc_g4_1, hc_g4_2, hc_g4_3, hc_g4_4, hc_g4_5, hc_g5_0⟩)
  go_region_held3 (fun w' => w'.cell? ⟨g3, 0, none⟩ = some (.int .i64 a0) ∧ w'.cell? ⟨g3, 1, none⟩ = some (.int .i64 b0) ∧ w'.cell? ⟨g3, 2, none⟩ = some (.int .i64 c0) ∧ w'.cell? ⟨g3, 3, none⟩ = some (.int .i64 a1) ∧ w'.cell? ⟨g3, 4, none⟩ = some (.int .i64 b1) ∧ w'.cell? ⟨g3, 5, none⟩ = some (.int .i64 c1) ∧ w'.cell? ⟨g4, 0, none⟩ = some (.int .i64 p0) ∧ w'.cell? ⟨g4, 1, none⟩ = some (.int .i64 q0) ∧ w'.cell? ⟨g4, 2, none⟩ = some (.int .i64 r0) ∧ w'.cell? ⟨g4, 3, none⟩ = some (.int .i64 p1) ∧ w'.cell? ⟨g4, 4, none⟩ = some (.int .i64 q1) ∧ w'.cell? ⟨g4, 5, none⟩ = some (.int .i64 r1) ∧ w'.cell? ⟨g5, 0, none⟩ = some (.int .i64 kf))
    (first | exact S0.out | (refine ⟨(blk_cell B_g3.out 0).trans rfl, (blk_cell B_g3.out 1).trans rfl, (blk_cell B_g3.out 2).trans rfl, (blk_cell B_g3.out 3).trans rfl, (blk_cell B_g3.out 4).trans rfl, (blk_cell B_g3.out 5).trans rfl, (blk_cell B_g4.out 0).trans rfl, (blk_cell B_g4.out 1).trans rfl, (blk_cell B_g4.out 2).trans rfl, (blk_cell B_g4.out 3).trans rfl, (blk_cell B_g4.out 4).trans rfl, (blk_cell B_g4.out 5).trans rfl, (blk_cell B_g5.out 0).trans rfl⟩) | (refine ⟨(blk_cell (blk_alloc B_g3.out _) 0).trans rfl, (blk_cell (blk_alloc B_g3.out _) 1).trans rfl, (blk_cell (blk_alloc B_g3.out _) 2).trans rfl, (blk_cell (blk_alloc B_g3.out _) 3).trans rfl, (blk_cell (blk_alloc B_g3.out _) 4).trans rfl, (blk_cell (blk_alloc B_g3.out _) 5).trans rfl, (blk_cell (blk_alloc B_g4.out _) 0).trans rfl, (blk_cell (blk_alloc B_g4.out _) 1).trans rfl, (blk_cell (blk_alloc B_g4.out _) 2).trans rfl, (blk_cell (blk_alloc B_g4.out _) 3).trans rfl, (blk_cell (blk_alloc B_g4.out _) 4).trans rfl, (blk_cell (blk_alloc B_g4.out _) 5).trans rfl, (blk_cell (blk_alloc B_g5.out _) 0).trans rfl⟩) | assumption)
    (first | (go_at_call 46; first | (with_reducible refine (chkBC a0 b0 c0 a1 b1 c1 _).mono ?_; rintro e wA ⟨rfl, hb⟩; have n0_ := Aside0.mk (bL B_g3.out hb); have n1_ := Aside0.mk (bL B_g4.out hb); have n2_ := Aside0.mk (bL B_g5.out hb); have nB_ := Aside0.mk (bbL HB.out hb); clear B_g3 B_g4 B_g5 HB; have B_g3 := n0_; have B_g4 := n1_; have B_g5 := n2_; have HB := nB_; clear n0_ n1_ n2_ nB_; clear hb) | (with_reducible refine (chkBC p0 q0 r0 p1 q1 r1 _).mono ?_; rintro e wB ⟨rfl, hb⟩; have n0_ := Aside0.mk (bL B_g3.out hb); have n1_ := Aside0.mk (bL B_g4.out hb); have n2_ := Aside0.mk (bL B_g5.out hb); have nB_ := Aside0.mk (bbL HB.out hb); clear B_g3 B_g4 B_g5 HB; have B_g3 := n0_; have B_g4 := n1_; have B_g5 := n2_; have HB := nB_; clear n0_ n1_ n2_ nB_; clear hb)) | (go_at_call 48; with_reducible refine (sawC kf _).mono ?_; rintro e wC ⟨rfl, hb⟩; have n0_ := Aside0.mk (bL B_g3.out hb); have n1_ := Aside0.mk (bL B_g4.out hb); have n2_ := Aside0.mk (bL B_g5.out hb); have nB_ := Aside0.mk (bbL HB.out hb); clear B_g3 B_g4 B_g5 HB; have B_g3 := n0_; have B_g4 := n1_; have B_g5 := n2_; have HB := nB_; clear n0_ n1_ n2_ nB_; clear hb) | (go_at_call 45; refine (firC _ _ _ _ _ _ (blk_new _ _)).mono ?_; rintro e wD ⟨rfl, hwD⟩; subst hwD))
  all_goals (clear S0)
  by_cases hc1 : firstE [chkB a0 b0 c0 a1 b1 c1, chkB p0 q0 r0 p1 q1 r1, swn0 kf] = 0
  rotate_left
  · have e1 : trE a0 b0 c0 a1 b1 c1 p0 q0 r0 p1 q1 r1 kf = firstE [chkB a0 b0 c0 a1 b1 c1, chkB p0 q0 r0 p1 q1 r1, swn0 kf] := if_neg hc1
    have e2 : trV a0 b0 c0 a1 b1 c1 p0 q0 r0 p1 q1 r1 kf = 0 := if_neg (by rw [e1]; exact hc1)
    have e3 : trL mk a0 b0 c0 a1 b1 c1 p0 q0 r0 p1 q1 r1 kf = [] := if_neg (by rw [e1]; exact hc1)
    obtain rfl := hRE.trans e1
    obtain rfl := hRV.trans e2
    obtain rfl := hRL.trans e3
    clear hRE hRV hRL e1 e2 e3
    go_wp2
    go_ret3
    exact ⟨_, rfl, Kd.R_nil _ _ _ _ _, (by repeat (first | (with_reducible first | exact HB.out | apply below_alloc | apply pw_below_drewN | apply below_drew1) | exact HB.out))⟩
  have hd_g3_0 : (wC.alloc (.cells #[.int .i64 (chkB a0 b0 c0 a1 b1 c1), .int .i64 (chkB p0 q0 r0 p1 q1 r1), .int .i64 (swn0 kf)] 29)).cell? ⟨g3, 0, none⟩ = some (.int .i64 a0) := (blk_cell (blk_alloc B_g3.out _) 0).trans rfl
  have hd_g3_1 : (wC.alloc (.cells #[.int .i64 (chkB a0 b0 c0 a1 b1 c1), .int .i64 (chkB p0 q0 r0 p1 q1 r1), .int .i64 (swn0 kf)] 29)).cell? ⟨g3, 1, none⟩ = some (.int .i64 b0) := (blk_cell (blk_alloc B_g3.out _) 1).trans rfl
  have hd_g3_2 : (wC.alloc (.cells #[.int .i64 (chkB a0 b0 c0 a1 b1 c1), .int .i64 (chkB p0 q0 r0 p1 q1 r1), .int .i64 (swn0 kf)] 29)).cell? ⟨g3, 2, none⟩ = some (.int .i64 c0) := (blk_cell (blk_alloc B_g3.out _) 2).trans rfl
  have hd_g3_3 : (wC.alloc (.cells #[.int .i64 (chkB a0 b0 c0 a1 b1 c1), .int .i64 (chkB p0 q0 r0 p1 q1 r1), .int .i64 (swn0 kf)] 29)).cell? ⟨g3, 3, none⟩ = some (.int .i64 a1) := (blk_cell (blk_alloc B_g3.out _) 3).trans rfl
  have hd_g3_4 : (wC.alloc (.cells #[.int .i64 (chkB a0 b0 c0 a1 b1 c1), .int .i64 (chkB p0 q0 r0 p1 q1 r1), .int .i64 (swn0 kf)] 29)).cell? ⟨g3, 4, none⟩ = some (.int .i64 b1) := (blk_cell (blk_alloc B_g3.out _) 4).trans rfl
  have hd_g3_5 : (wC.alloc (.cells #[.int .i64 (chkB a0 b0 c0 a1 b1 c1), .int .i64 (chkB p0 q0 r0 p1 q1 r1), .int .i64 (swn0 kf)] 29)).cell? ⟨g3, 5, none⟩ = some (.int .i64 c1) := (blk_cell (blk_alloc B_g3.out _) 5).trans rfl
  have hd_g4_0 : (wC.alloc (.cells #[.int .i64 (chkB a0 b0 c0 a1 b1 c1), .int .i64 (chkB p0 q0 r0 p1 q1 r1), .int .i64 (swn0 kf)] 29)).cell? ⟨g4, 0, none⟩ = some (.int .i64 p0) := (blk_cell (blk_alloc B_g4.out _) 0).trans rfl
  have hd_g4_1 : (wC.alloc (.cells #[.int .i64 (chkB a0 b0 c0 a1 b1 c1), .int .i64 (chkB p0 q0 r0 p1 q1 r1), .int .i64 (swn0 kf)] 29)).cell? ⟨g4, 1, none⟩ = some (.int .i64 q0) := (blk_cell (blk_alloc B_g4.out _) 1).trans rfl
  have hd_g4_2 : (wC.alloc (.cells #[.int .i64 (chkB a0 b0 c0 a1 b1 c1), .int .i64 (chkB p0 q0 r0 p1 q1 r1), .int .i64 (swn0 kf)] 29)).cell? ⟨g4, 2, none⟩ = some (.int .i64 r0) := (blk_cell (blk_alloc B_g4.out _) 2).trans rfl
  have hd_g4_3 : (wC.alloc (.cells #[.int .i64 (chkB a0 b0 c0 a1 b1 c1), .int .i64 (chkB p0 q0 r0 p1 q1 r1), .int .i64 (swn0 kf)] 29)).cell? ⟨g4, 3, none⟩ = some (.int .i64 p1) := (blk_cell (blk_alloc B_g4.out _) 3).trans rfl
  have hd_g4_4 : (wC.alloc (.cells #[.int .i64 (chkB a0 b0 c0 a1 b1 c1), .int .i64 (chkB p0 q0 r0 p1 q1 r1), .int .i64 (swn0 kf)] 29)).cell? ⟨g4, 4, none⟩ = some (.int .i64 q1) := (blk_cell (blk_alloc B_g4.out _) 4).trans rfl
  have hd_g4_5 : (wC.alloc (.cells #[.int .i64 (chkB a0 b0 c0 a1 b1 c1), .int .i64 (chkB p0 q0 r0 p1 q1 r1), .int .i64 (swn0 kf)] 29)).cell? ⟨g4, 5, none⟩ = some (.int .i64 r1) := (blk_cell (blk_alloc B_g4.out _) 5).trans rfl
  have hd_g5_0 : (wC.alloc (.cells #[.int .i64 (chkB a0 b0 c0 a1 b1 c1), .int .i64 (chkB p0 q0 r0 p1 q1 r1), .int .i64 (swn0 kf)] 29)).cell? ⟨g5, 0, none⟩ = some (.int .i64 kf) := (blk_cell (blk_alloc B_g5.out _) 0).trans rfl
  have e0 : trE a0 b0 c0 a1 b1 c1 p0 q0 r0 p1 q1 r1 kf = (if insE p0 q0 r0 p1 q1 r1 a0 b0 c0 a1 b1 c1 = true then 0 else 12) := if_pos hc1
  by_cases hc2 : insE p0 q0 r0 p1 q1 r1 a0 b0 c0 a1 b1 c1 = true
  rotate_left
  · have e1 : trE a0 b0 c0 a1 b1 c1 p0 q0 r0 p1 q1 r1 kf = 12 := by rw [e0, if_neg hc2]
    have e2 : trV a0 b0 c0 a1 b1 c1 p0 q0 r0 p1 q1 r1 kf = 0 := if_neg (by rw [e1]; decide)
    have e3 : trL mk a0 b0 c0 a1 b1 c1 p0 q0 r0 p1 q1 r1 kf = [] := if_neg (by rw [e1]; decide)
    obtain rfl := hRE.trans e1
    obtain rfl := hRV.trans e2
    obtain rfl := hRL.trans e3
    clear hRE hRV hRL e1 e2 e3
    have c2' : insE p0 q0 r0 p1 q1 r1 a0 b0 c0 a1 b1 c1 = false := by simpa using hc2
    go_wp2_with (first | ((with_reducible refine gate_callee (f := 52) rfl ?_); refine goesL_ (some 31) rfl rfl Try.func52 (by kernel_rfl) rfl #[.agg #[.int .i64 p0, .int .i64 q0, .int .i64 r0, .int .i64 p1, .int .i64 q1, .int .i64 r1], .agg #[.int .i64 a0, .int .i64 b0, .int .i64 c0, .int .i64 a1, .int .i64 b1, .int .i64 c1]] rfl (by (try simp only [List.map_toArray, List.map_cons, List.map_nil]); first | done | rfl) ?_; (with_reducible refine (insC p0 q0 r0 p1 q1 r1 a0 b0 c0 a1 b1 c1 _).mono ?_); rintro e wI ⟨rfl, hb⟩; refine ⟨_, rfl, ?_⟩; have n0_ := Aside0.mk (bL B_g3.out hb); have n1_ := Aside0.mk (bL B_g4.out hb); have n2_ := Aside0.mk (bL B_g5.out hb); have nB_ := Aside0.mk (bbL HB.out hb); clear B_g3 B_g4 B_g5 HB; have B_g3 := n0_; have B_g4 := n1_; have B_g5 := n2_; have HB := nB_; clear n0_ n1_ n2_ nB_; clear hb))
    go_ret3
    exact ⟨_, rfl, Kd.R_nil _ _ _ _ _, (by repeat (first | (with_reducible first | exact HB.out | apply below_alloc | apply pw_below_drewN | apply below_drew1) | exact HB.out))⟩
  have e1 : trE a0 b0 c0 a1 b1 c1 p0 q0 r0 p1 q1 r1 kf = 0 := by rw [e0, if_pos hc2]
  have HRV := Aside0.mk (hRV.trans (if_pos e1))
  have HRL := Aside0.mk (hRL.trans (if_pos e1))
  have HC1 := Aside0.mk hc1
  have HC2 := Aside0.mk hc2
  obtain rfl := hRE.trans e1
  clear hRE e0 e1 hRV hRL
  go_wp2_with (first | ((with_reducible refine gate_callee (f := 52) rfl ?_); refine goesL_ (some 31) rfl rfl Try.func52 (by kernel_rfl) rfl #[.agg #[.int .i64 p0, .int .i64 q0, .int .i64 r0, .int .i64 p1, .int .i64 q1, .int .i64 r1], .agg #[.int .i64 a0, .int .i64 b0, .int .i64 c0, .int .i64 a1, .int .i64 b1, .int .i64 c1]] rfl (by (try simp only [List.map_toArray, List.map_cons, List.map_nil]); first | done | rfl) ?_; (with_reducible refine (insC p0 q0 r0 p1 q1 r1 a0 b0 c0 a1 b1 c1 _).mono ?_); rintro e wI ⟨rfl, hb⟩; refine ⟨_, rfl, ?_⟩; have n0_ := Aside0.mk (bL B_g3.out hb); have n1_ := Aside0.mk (bL B_g4.out hb); have n2_ := Aside0.mk (bL B_g5.out hb); have nB_ := Aside0.mk (bbL HB.out hb); clear B_g3 B_g4 B_g5 HB; have B_g3 := n0_; have B_g4 := n1_; have B_g5 := n2_; have HB := nB_; clear n0_ n1_ n2_ nB_; clear hb) | ((with_reducible refine gate_dst (N := 10) rfl ?_); refine box_event ?hg (N := 10) ?hd (cs := #[.slice none 0 0]) (t := 55) ?hr ?_; (case hd => rfl); (case hg => rfl); (case hr => first | (go_simp; done) | (go_simp; rfl)); intro g10 hg w10 hbox hb; have GE_g10 : w.heap.size ≤ g10 := (by rw [hg]; exact (below_size (blL HB.out))); have NE_g3_g10 : g3 ≠ g10 := (by rw [hg]; exact Nat.ne_of_lt (lL B_g3.out)); have NE_g10_g3 := NE_g3_g10.symm; have NE_g4_g10 : g4 ≠ g10 := (by rw [hg]; exact Nat.ne_of_lt (lL B_g4.out)); have NE_g10_g4 := NE_g4_g10.symm; have NE_g5_g10 : g5 ≠ g10 := (by rw [hg]; exact Nat.ne_of_lt (lL B_g5.out)); have NE_g10_g5 := NE_g5_g10.symm; have n0_ := Aside0.mk (bL B_g3.out hb); have n1_ := Aside0.mk (bL B_g4.out hb); have n2_ := Aside0.mk (bL B_g5.out hb); have nB_ := Aside0.mk (bbL HB.out hb); clear B_g3 B_g4 B_g5 HB; have B_g3 := n0_; have B_g4 := n1_; have B_g5 := n2_; have HB := nB_; clear n0_ n1_ n2_ nB_; have B_g10 := Aside0.mk hbox; clear hb hbox hg) | ((with_reducible refine gate_dst (N := 11) rfl ?_); refine box_event ?hg (N := 11) ?hd (cs := #[.int .i64 0]) (t := 2) ?hr ?_; (case hd => rfl); (case hg => rfl); (case hr => first | (go_simp; done) | (go_simp; rfl)); intro g11 hg w11 hbox hb; have GE_g11 : w.heap.size ≤ g11 := (by rw [hg]; exact (below_size (blL HB.out))); have NE_g3_g11 : g3 ≠ g11 := (by rw [hg]; exact Nat.ne_of_lt (lL B_g3.out)); have NE_g11_g3 := NE_g3_g11.symm; have NE_g4_g11 : g4 ≠ g11 := (by rw [hg]; exact Nat.ne_of_lt (lL B_g4.out)); have NE_g11_g4 := NE_g4_g11.symm; have NE_g5_g11 : g5 ≠ g11 := (by rw [hg]; exact Nat.ne_of_lt (lL B_g5.out)); have NE_g11_g5 := NE_g5_g11.symm; have NE_g10_g11 : g10 ≠ g11 := (by rw [hg]; exact Nat.ne_of_lt (lL B_g10.out)); have NE_g11_g10 := NE_g10_g11.symm; have n0_ := Aside0.mk (bL B_g3.out hb); have n1_ := Aside0.mk (bL B_g4.out hb); have n2_ := Aside0.mk (bL B_g5.out hb); have n3_ := Aside0.mk (bL B_g10.out hb); have nB_ := Aside0.mk (bbL HB.out hb); clear B_g3 B_g4 B_g5 B_g10 HB; have B_g3 := n0_; have B_g4 := n1_; have B_g5 := n2_; have B_g10 := n3_; have HB := nB_; clear n0_ n1_ n2_ n3_ nB_; have B_g11 := Aside0.mk hbox; clear hb hbox hg; have hc_g11_0 : w11.cell? ⟨g11, 0, none⟩ = some (.int .i64 0) := (blk_cell B_g11.out 0).trans rfl; have hf_g11_0 := blk_frozen B_g11.out 0))
  obtain ⟨HI, hk0, hk1⟩ := inv_of HC1.out HC2.out
  have HI := Aside0.mk HI
  clear HC1 HC2
  go_loopg [33] 3 (fun kq v33 w' => ∃ (ax x0 y0 z0 x1 y1 z1 lost : Int) (v : Value) (l : List S), v33 = .int .i64 ax ∧ Hid (ax + kq = 3) ∧ Aside0 (tr mk p0 q0 r0 p1 q1 r1 kf kq ax x0 y0 z0 x1 y1 z1 l lost = (RL, RV)) ∧ Aside0 (Inv x0 y0 z0 x1 y1 z1 p0 q0 r0 p1 q1 r1) ∧ Hid (l.length + 2 * kq ≤ 6) ∧ Aside0 (k.R 33 w' w.heap.size (OK5 g3 g4 g5 g10 g11) v l) ∧ Aside0 (w'.heap[g3]? = some (.cells #[.int .i64 x0, .int .i64 y0, .int .i64 z0, .int .i64 x1, .int .i64 y1, .int .i64 z1] 25 (0, 0))) ∧ Aside0 (w'.heap[g4]? = some (.cells #[.int .i64 p0, .int .i64 q0, .int .i64 r0, .int .i64 p1, .int .i64 q1, .int .i64 r1] 25 (0, 0))) ∧ Aside0 (w'.heap[g5]? = some (.cells #[.int .i64 kf] 3 (0, 0))) ∧ Aside0 (w'.heap[g10]? = some (.cells #[v] 55 (0, 0))) ∧ Aside0 (w'.heap[g11]? = some (.cells #[.int .i64 lost] 2 (0, 0))) ∧ Aside0 (Below w.heap.size w w'))
  case atStart =>
    refine ⟨0, a0, b0, c0, a1, b1, c1, 0, .slice none 0 0, [], rfl, by simp [Hid], ⟨?_⟩, HI, by simp [Hid], ⟨Kd.R_nil _ _ _ _ _⟩, ⟨blk_far B_g3.out (p := ⟨g11, 0, none⟩) NE_g3_g11 _⟩, ⟨blk_far B_g4.out (p := ⟨g11, 0, none⟩) NE_g4_g11 _⟩, ⟨blk_far B_g5.out (p := ⟨g11, 0, none⟩) NE_g5_g11 _⟩, ⟨blk_far B_g10.out (p := ⟨g11, 0, none⟩) NE_g10_g11 _⟩, ⟨blk_put B_g11.out 0 _ rfl⟩, ⟨below_set HB.out GE_g11⟩⟩
    rw [HRL.out, HRV.out, tr_snd (fun a b c => (a, b, c)) mk p0 q0 r0 p1 q1 r1 kf 3 0 a0 b0 c0 a1 b1 c1 [] [] 0]
  case round =>
    obtain ⟨ax, x0, y0, z0, x1, y1, z1, lost, v, l, rfl, HAX, HT, HI, HLN, HR, B_g3, B_g4, B_g5, B_g10, B_g11, HB⟩ := hrel
    clear hc_g3_0 hc_g3_1 hc_g3_2 hc_g3_3 hc_g3_4 hc_g3_5 hc_g4_0 hc_g4_1 hc_g4_2 hc_g4_3 hc_g4_4 hc_g4_5 hc_g5_0 hf_g3_0 hf_g3_1 hf_g3_2 hf_g3_3 hf_g3_4 hf_g3_5 hf_g4_0 hf_g4_1 hf_g4_2 hf_g4_3 hf_g4_4 hf_g4_5 hf_g5_0 hd_g3_0 hd_g3_1 hd_g3_2 hd_g3_3 hd_g3_4 hd_g3_5 hd_g4_0 hd_g4_1 hd_g4_2 hd_g4_3 hd_g4_4 hd_g4_5 hd_g5_0
    try clear hc1
    try clear hc2
    try clear hc_g11_0
    try clear hf_g11_0
    clear HRV HRL
    have hmf : ∀ (fn : Fn) (first cap : Array Value) (w : World), (Instr.makeFunc fn first cap).run Try.prog w = .ok (.func fn first cap) w := fun _ _ _ _ => rfl
    cases gk with
    | zero =>
      have hax := HAX.out
      obtain rfl : ax = 3 := by omega
      have HT' := HT.out
      simp only [tr, Prod.mk.injEq] at HT'
      obtain ⟨rfl, rfl⟩ := HT'
      clear HT hax HAX
      have hc10 : wr.cell? ⟨g10, 0, none⟩ = some v := (blk_cell B_g10.out 0).trans rfl
      have hc11 : wr.cell? ⟨g11, 0, none⟩ = some (.int .i64 lost) := (blk_cell B_g11.out 0).trans rfl
      obtain ⟨vA, vC, rfl⟩ := Kd.R_slice HR.out
      go_wp2
      go_region
      all_goals (try go_wp2)
      all_goals go_ret3
      all_goals exact ⟨_, rfl, Kd.R_mono (Kd.R_drew HR.out) (fun _ _ => trivial), below_drew HB.out⟩
    | succ gn =>
      have hax := HAX.out
      have h0 : 0 ≤ ax := by have := HLN.out; omega
      have h3 : ax < 3 := by omega
      have hA : inA ax = true := by simp [inA]; omega
      have hwa : IntKind.i64.wrap (ax + 1) = ax + 1 := wrap_i64 (by omega) (by omega)
      obtain ⟨i1, i2, i3, i4, i5⟩ := inv_gx HI.out ax
      have H := HT.out
      clear HT
      simp only [tr] at H
      obtain ⟨lo, hlo⟩ : ∃ lo, lo = gx x0 y0 z0 ax := ⟨_, rfl⟩
      obtain ⟨hi, hhi⟩ : ∃ hi, hi = gx x1 y1 z1 ax := ⟨_, rfl⟩
      obtain ⟨bg, hbg⟩ : ∃ bg, bg = gx p0 q0 r0 ax := ⟨_, rfl⟩
      obtain ⟨en, hen⟩ : ∃ en, en = gx p1 q1 r1 ax := ⟨_, rfl⟩
      rw [← hlo, ← hhi, ← hbg, ← hen] at H
      rw [← hlo] at i1 i2
      rw [← hbg] at i2 i3
      rw [← hen] at i3 i4
      rw [← hhi] at i4 i5
      have HLO := Aside0.mk hlo
      have HHI := Aside0.mk hhi
      have HBG := Aside0.mk hbg
      have HEN := Aside0.mk hen
      have hw1 : IntKind.i64.wrap (bg - lo) = bg - lo := wrap_i64 (by omega) (by omega)
      have hw2 : IntKind.i64.wrap (bg - kf) = bg - kf := wrap_i64 (by omega) (by omega)
      have hw3 : IntKind.i64.wrap (hi - en) = hi - en := wrap_i64 (by omega) (by omega)
      have h3d : decide (ax < 3) = true := decide_eq_true h3
      clear hlo hhi hbg hen
      by_cases c3 : lo < bg
      · rw [if_pos c3] at H
        by_cases c4 : en < hi
        · rw [if_pos c4] at H
          go_wp2_with (first | ((with_reducible refine gate_dst (N := 12) rfl ?_); refine box_event ?hg (N := 12) ?hd (cs := #[.int .i64 0]) (t := 3) ?hr ?_; (case hd => rfl); (case hg => rfl); (case hr => first | (go_simp; done) | (go_simp; rfl)); intro g12 hg w12 hbox hb; have GE_g12 : w.heap.size ≤ g12 := (by rw [hg]; exact (below_size (blL HB.out))); have NE_g3_g12 : g3 ≠ g12 := (by rw [hg]; exact Nat.ne_of_lt (lL B_g3.out)); have NE_g12_g3 := NE_g3_g12.symm; have NE_g4_g12 : g4 ≠ g12 := (by rw [hg]; exact Nat.ne_of_lt (lL B_g4.out)); have NE_g12_g4 := NE_g4_g12.symm; have NE_g5_g12 : g5 ≠ g12 := (by rw [hg]; exact Nat.ne_of_lt (lL B_g5.out)); have NE_g12_g5 := NE_g5_g12.symm; have NE_g10_g12 : g10 ≠ g12 := (by rw [hg]; exact Nat.ne_of_lt (lL B_g10.out)); have NE_g12_g10 := NE_g10_g12.symm; have NE_g11_g12 : g11 ≠ g12 := (by rw [hg]; exact Nat.ne_of_lt (lL B_g11.out)); have NE_g12_g11 := NE_g11_g12.symm; have HRq := Aside0.mk (Kd.R_mono (Kd.R_bound HR.out) (fun j hj => (⟨hj.1.1, hj.1.2.1, hj.1.2.2.1, hj.1.2.2.2.1, hj.1.2.2.2.2, by rw [hg]; exact Nat.ne_of_lt hj.2.2.1⟩ : OKb g3 g4 g5 g10 g11 g12 j))); clear HR; have HR := HRq; clear HRq; have n0_ := Aside0.mk (bL B_g3.out hb); have n1_ := Aside0.mk (bL B_g4.out hb); have n2_ := Aside0.mk (bL B_g5.out hb); have n3_ := Aside0.mk (bL B_g10.out hb); have n4_ := Aside0.mk (bL B_g11.out hb); have nB_ := Aside0.mk (bbL HB.out hb); have nR_ := Aside0.mk (rbL HR.out hb); clear B_g3 B_g4 B_g5 B_g10 B_g11 HB HR; have B_g3 := n0_; have B_g4 := n1_; have B_g5 := n2_; have B_g10 := n3_; have B_g11 := n4_; have HB := nB_; have HR := nR_; clear n0_ n1_ n2_ n3_ n4_ nB_ nR_; have B_g12 := Aside0.mk hbox; clear hb hbox hg; have hc_g3_0 : w12.cell? ⟨g3, 0, none⟩ = some (.int .i64 x0) := (blk_cell B_g3.out 0).trans rfl; have hf_g3_0 := blk_frozen B_g3.out 0; have hc_g3_1 : w12.cell? ⟨g3, 1, none⟩ = some (.int .i64 y0) := (blk_cell B_g3.out 1).trans rfl; have hf_g3_1 := blk_frozen B_g3.out 1; have hc_g3_2 : w12.cell? ⟨g3, 2, none⟩ = some (.int .i64 z0) := (blk_cell B_g3.out 2).trans rfl; have hf_g3_2 := blk_frozen B_g3.out 2; have hc_g3_3 : w12.cell? ⟨g3, 3, none⟩ = some (.int .i64 x1) := (blk_cell B_g3.out 3).trans rfl; have hf_g3_3 := blk_frozen B_g3.out 3; have hc_g3_4 : w12.cell? ⟨g3, 4, none⟩ = some (.int .i64 y1) := (blk_cell B_g3.out 4).trans rfl; have hf_g3_4 := blk_frozen B_g3.out 4; have hc_g3_5 : w12.cell? ⟨g3, 5, none⟩ = some (.int .i64 z1) := (blk_cell B_g3.out 5).trans rfl; have hf_g3_5 := blk_frozen B_g3.out 5; have hc_g12_0 : w12.cell? ⟨g12, 0, none⟩ = some (.int .i64 0) := (blk_cell B_g12.out 0).trans rfl; have hf_g12_0 := blk_frozen B_g12.out 0) | ((with_reducible refine gate_callee (f := 42) rfl ?_); refine goesL_ (some 39) rfl rfl Try.func42 (by kernel_rfl) rfl #[.agg #[.int .i64 x0, .int .i64 y0, .int .i64 z0, .int .i64 x1, .int .i64 y1, .int .i64 z1], .int .i64 ax] rfl (by (try simp only [List.map_toArray, List.map_cons, List.map_nil]); first | done | rfl) ?_; (with_reducible refine (endD x0 y0 z0 x1 y1 z1 ax lo hi HLO.out HHI.out hA _).mono ?_); rintro e wa ⟨rfl, hb⟩; refine ⟨_, rfl, ?_⟩; have n0_ := Aside0.mk (blk_below (blk_far B_g3.out (p := ⟨g12, 0, none⟩) NE_g3_g12 (.int .i64 ax)) hb); have n1_ := Aside0.mk (blk_below (blk_far B_g4.out (p := ⟨g12, 0, none⟩) NE_g4_g12 (.int .i64 ax)) hb); have n2_ := Aside0.mk (blk_below (blk_far B_g5.out (p := ⟨g12, 0, none⟩) NE_g5_g12 (.int .i64 ax)) hb); have n3_ := Aside0.mk (blk_below (blk_far B_g10.out (p := ⟨g12, 0, none⟩) NE_g10_g12 (.int .i64 ax)) hb); have n4_ := Aside0.mk (blk_below (blk_far B_g11.out (p := ⟨g12, 0, none⟩) NE_g11_g12 (.int .i64 ax)) hb); have n5_ := Aside0.mk (blk_below (blk_put (cs' := #[.int .i64 ax]) B_g12.out 0 (.int .i64 ax) rfl) hb); have nB_ := Aside0.mk (below_step (below_set HB.out GE_g12) hb); have nR_ := Aside0.mk (Kd.R_below (Kd.R_far HR.out (p := ⟨g12, 0, none⟩) (fun _ hk => hk.2.2.2.2.2) (.int .i64 ax)) hb); clear B_g3 B_g4 B_g5 B_g10 B_g11 B_g12 HB HR; have B_g3 := n0_; have B_g4 := n1_; have B_g5 := n2_; have B_g10 := n3_; have B_g11 := n4_; have B_g12 := n5_; have HB := nB_; have HR := nR_; clear nB_ nR_ n0_ n1_ n2_ n3_ n4_ n5_; clear hb; have hc_g4_0 : wa.cell? ⟨g4, 0, none⟩ = some (.int .i64 p0) := (blk_cell B_g4.out 0).trans rfl; have hf_g4_0 := blk_frozen B_g4.out 0; have hc_g4_1 : wa.cell? ⟨g4, 1, none⟩ = some (.int .i64 q0) := (blk_cell B_g4.out 1).trans rfl; have hf_g4_1 := blk_frozen B_g4.out 1; have hc_g4_2 : wa.cell? ⟨g4, 2, none⟩ = some (.int .i64 r0) := (blk_cell B_g4.out 2).trans rfl; have hf_g4_2 := blk_frozen B_g4.out 2; have hc_g4_3 : wa.cell? ⟨g4, 3, none⟩ = some (.int .i64 p1) := (blk_cell B_g4.out 3).trans rfl; have hf_g4_3 := blk_frozen B_g4.out 3; have hc_g4_4 : wa.cell? ⟨g4, 4, none⟩ = some (.int .i64 q1) := (blk_cell B_g4.out 4).trans rfl; have hf_g4_4 := blk_frozen B_g4.out 4; have hc_g4_5 : wa.cell? ⟨g4, 5, none⟩ = some (.int .i64 r1) := (blk_cell B_g4.out 5).trans rfl; have hf_g4_5 := blk_frozen B_g4.out 5; have hc_g12_0 : wa.cell? ⟨g12, 0, none⟩ = some (.int .i64 ax) := (blk_cell B_g12.out 0).trans rfl; have hf_g12_0 := blk_frozen B_g12.out 0) | ((with_reducible refine gate_callee (f := 42) rfl ?_); refine goesL_ (some 45) rfl rfl Try.func42 (by kernel_rfl) rfl #[.agg #[.int .i64 p0, .int .i64 q0, .int .i64 r0, .int .i64 p1, .int .i64 q1, .int .i64 r1], .int .i64 ax] rfl (by (try simp only [List.map_toArray, List.map_cons, List.map_nil]); first | done | rfl) ?_; (with_reducible refine (endD p0 q0 r0 p1 q1 r1 ax bg en HBG.out HEN.out hA _).mono ?_); rintro e wb ⟨rfl, hb⟩; refine ⟨_, rfl, ?_⟩; have n0_ := Aside0.mk (bL B_g3.out hb); have n1_ := Aside0.mk (bL B_g4.out hb); have n2_ := Aside0.mk (bL B_g5.out hb); have n3_ := Aside0.mk (bL B_g10.out hb); have n4_ := Aside0.mk (bL B_g11.out hb); have n5_ := Aside0.mk (bL B_g12.out hb); have nB_ := Aside0.mk (bbL HB.out hb); have nR_ := Aside0.mk (rbL HR.out hb); clear B_g3 B_g4 B_g5 B_g10 B_g11 B_g12 HB HR; have B_g3 := n0_; have B_g4 := n1_; have B_g5 := n2_; have B_g10 := n3_; have B_g11 := n4_; have B_g12 := n5_; have HB := nB_; have HR := nR_; clear n0_ n1_ n2_ n3_ n4_ n5_ nB_ nR_; clear hb; have hc_g5_0 : wb.cell? ⟨g5, 0, none⟩ = some (.int .i64 kf) := (blk_cell B_g5.out 0).trans rfl; have hf_g5_0 := blk_frozen B_g5.out 0))
          have hm1 : IntKind.i64.wrap (lo + (if bg - lo ≤ kf then bg - lo else kf)) = lo + (if bg - lo ≤ kf then bg - lo else kf) := wrap_i64 (by split <;> omega) (by split <;> omega)
          refine (clo k mk hM hsz w.heap.size w _ HB.out g3 g4 g5 g10 g11 g12 x0 y0 z0 x1 y1 z1 kf lost ax (bg - lo) (bg - kf) (lo) v l B_g3.out B_g5.out B_g10.out B_g11.out B_g12.out (blk_lt B_g4.out) GE_g10 GE_g11 HR.out (by have := HLN.out; omega) hA (if bg - lo ≤ kf then bg - lo else kf) rfl hm1 (inB_put HI.out ax lo (lo + (if bg - lo ≤ kf then bg - lo else kf)) (by omega) (by split <;> omega))).mono ?_
          rintro e wc ⟨rfl, v1, hb10, hb11, hR, hB, hF⟩
          have n_g3 := Aside0.mk (hF g3 _ B_g3.out NE_g3_g10 NE_g3_g11 (Kd.R_away HR.out (fun _ hk => hk.1)))
          have n_g4 := Aside0.mk (hF g4 _ B_g4.out NE_g4_g10 NE_g4_g11 (Kd.R_away HR.out (fun _ hk => hk.2.1)))
          have n_g5 := Aside0.mk (hF g5 _ B_g5.out NE_g5_g10 NE_g5_g11 (Kd.R_away HR.out (fun _ hk => hk.2.2.1)))
          have n_g12 := Aside0.mk (hF g12 _ B_g12.out NE_g12_g10 NE_g12_g11 (Kd.R_away HR.out (fun _ hk => hk.2.2.2.2.2)))
          have n_g10 := Aside0.mk hb10
          have n_g11 := Aside0.mk (show wc.heap[g11]? = some (.cells #[.int .i64 (sdV x0 y0 z0 x1 y1 z1 ax kf (bg - lo) (lo) lost)] 2 (0, 0)) from hb11)
          have n_R := Aside0.mk (show k.R 33 wc w.heap.size (OKb g3 g4 g5 g10 g11 g12) v1 (sdL mk ax kf (bg - lo) (bg - kf) l) from hR)
          have n_B := Aside0.mk hB
          clear HR HB hb10 hb11 hR hB hF hm1 B_g3 B_g4 B_g5 B_g10 B_g11 B_g12
          have B_g3 := n_g3
          have B_g4 := n_g4
          have B_g5 := n_g5
          have B_g10 := n_g10
          have B_g11 := n_g11
          have B_g12 := n_g12
          have HR := n_R
          have HB := n_B
          clear n_R n_B n_g3 n_g4 n_g5 n_g10 n_g11 n_g12
          have hc_g3_0 : wc.cell? ⟨g3, 0, none⟩ = some (.int .i64 x0) := (blk_cell B_g3.out 0).trans rfl
          have hf_g3_0 := blk_frozen B_g3.out 0
          have hc_g3_1 : wc.cell? ⟨g3, 1, none⟩ = some (.int .i64 y0) := (blk_cell B_g3.out 1).trans rfl
          have hf_g3_1 := blk_frozen B_g3.out 1
          have hc_g3_2 : wc.cell? ⟨g3, 2, none⟩ = some (.int .i64 z0) := (blk_cell B_g3.out 2).trans rfl
          have hf_g3_2 := blk_frozen B_g3.out 2
          have hc_g3_3 : wc.cell? ⟨g3, 3, none⟩ = some (.int .i64 x1) := (blk_cell B_g3.out 3).trans rfl
          have hf_g3_3 := blk_frozen B_g3.out 3
          have hc_g3_4 : wc.cell? ⟨g3, 4, none⟩ = some (.int .i64 y1) := (blk_cell B_g3.out 4).trans rfl
          have hf_g3_4 := blk_frozen B_g3.out 4
          have hc_g3_5 : wc.cell? ⟨g3, 5, none⟩ = some (.int .i64 z1) := (blk_cell B_g3.out 5).trans rfl
          have hf_g3_5 := blk_frozen B_g3.out 5
          have hc_g12_0 : wc.cell? ⟨g12, 0, none⟩ = some (.int .i64 ax) := (blk_cell B_g12.out 0).trans rfl
          have hf_g12_0 := blk_frozen B_g12.out 0
          have HI1 := Aside0.mk (inv_put HI.out ax bg hi (by omega) (by rw [← HBG.out]; omega) (by rw [← HEN.out]; omega) (by omega))
          go_wp2_with (first | ((with_reducible refine gate_callee (f := 43) rfl ?_); refine goesL_ (some 65) rfl rfl Try.func43 (by kernel_rfl) rfl #[.agg #[.int .i64 x0, .int .i64 y0, .int .i64 z0, .int .i64 x1, .int .i64 y1, .int .i64 z1], .int .i64 ax, .int .i64 bg, .int .i64 hi] rfl (by (try simp only [List.map_toArray, List.map_cons, List.map_nil]); first | done | rfl) ?_; (with_reducible refine (btwC x0 y0 z0 x1 y1 z1 ax bg hi hA _).mono ?_); rintro e wd ⟨rfl, hb⟩; refine ⟨_, rfl, ?_⟩; have n0_ := Aside0.mk (bL B_g3.out hb); have n1_ := Aside0.mk (bL B_g4.out hb); have n2_ := Aside0.mk (bL B_g5.out hb); have n3_ := Aside0.mk (bL B_g10.out hb); have n4_ := Aside0.mk (bL B_g11.out hb); have n5_ := Aside0.mk (bL B_g12.out hb); have nB_ := Aside0.mk (bbL HB.out hb); have nR_ := Aside0.mk (rbL HR.out hb); clear B_g3 B_g4 B_g5 B_g10 B_g11 B_g12 HB HR; have B_g3 := n0_; have B_g4 := n1_; have B_g5 := n2_; have B_g10 := n3_; have B_g11 := n4_; have B_g12 := n5_; have HB := nB_; have HR := nR_; clear n0_ n1_ n2_ n3_ n4_ n5_ nB_ nR_; clear hb; have hc_g3_0 : wd.cell? ⟨g3, 0, none⟩ = some (.int .i64 x0) := (blk_cell B_g3.out 0).trans rfl; have hf_g3_0 := blk_frozen B_g3.out 0; have hc_g3_1 : wd.cell? ⟨g3, 1, none⟩ = some (.int .i64 y0) := (blk_cell B_g3.out 1).trans rfl; have hf_g3_1 := blk_frozen B_g3.out 1; have hc_g3_2 : wd.cell? ⟨g3, 2, none⟩ = some (.int .i64 z0) := (blk_cell B_g3.out 2).trans rfl; have hf_g3_2 := blk_frozen B_g3.out 2; have hc_g3_3 : wd.cell? ⟨g3, 3, none⟩ = some (.int .i64 x1) := (blk_cell B_g3.out 3).trans rfl; have hf_g3_3 := blk_frozen B_g3.out 3; have hc_g3_4 : wd.cell? ⟨g3, 4, none⟩ = some (.int .i64 y1) := (blk_cell B_g3.out 4).trans rfl; have hf_g3_4 := blk_frozen B_g3.out 4; have hc_g3_5 : wd.cell? ⟨g3, 5, none⟩ = some (.int .i64 z1) := (blk_cell B_g3.out 5).trans rfl; have hf_g3_5 := blk_frozen B_g3.out 5))
          have hm2 : IntKind.i64.wrap (en + (if hi - en ≤ kf then hi - en else kf)) = en + (if hi - en ≤ kf then hi - en else kf) := wrap_i64 (by split <;> omega) (by split <;> omega)
          refine (clo k mk hM hsz w.heap.size w _ (st6_B HB.out GE_g3 (.int .i64 (pX x0 ax (bg))) (.int .i64 (pY y0 ax (bg))) (.int .i64 (pZ z0 ax (bg))) (.int .i64 (pX x1 ax (hi))) (.int .i64 (pY y1 ax (hi))) (.int .i64 (pZ z1 ax (hi)))) g3 g4 g5 g10 g11 g12 (pX x0 ax (bg)) (pY y0 ax (bg)) (pZ z0 ax (bg)) (pX x1 ax (hi)) (pY y1 ax (hi)) (pZ z1 ax (hi)) kf (sdV x0 y0 z0 x1 y1 z1 ax kf (bg - lo) (lo) lost) ax (hi - en) (en) (en) v1 (sdL mk ax kf (bg - lo) (bg - kf) l) (st6_put B_g3.out (.int .i64 (pX x0 ax (bg))) (.int .i64 (pY y0 ax (bg))) (.int .i64 (pZ z0 ax (bg))) (.int .i64 (pX x1 ax (hi))) (.int .i64 (pY y1 ax (hi))) (.int .i64 (pZ z1 ax (hi)))) (st6_far B_g5.out NE_g5_g3 (.int .i64 (pX x0 ax (bg))) (.int .i64 (pY y0 ax (bg))) (.int .i64 (pZ z0 ax (bg))) (.int .i64 (pX x1 ax (hi))) (.int .i64 (pY y1 ax (hi))) (.int .i64 (pZ z1 ax (hi)))) (st6_far B_g10.out NE_g10_g3 (.int .i64 (pX x0 ax (bg))) (.int .i64 (pY y0 ax (bg))) (.int .i64 (pZ z0 ax (bg))) (.int .i64 (pX x1 ax (hi))) (.int .i64 (pY y1 ax (hi))) (.int .i64 (pZ z1 ax (hi)))) (st6_far B_g11.out NE_g11_g3 (.int .i64 (pX x0 ax (bg))) (.int .i64 (pY y0 ax (bg))) (.int .i64 (pZ z0 ax (bg))) (.int .i64 (pX x1 ax (hi))) (.int .i64 (pY y1 ax (hi))) (.int .i64 (pZ z1 ax (hi)))) (st6_far B_g12.out NE_g12_g3 (.int .i64 (pX x0 ax (bg))) (.int .i64 (pY y0 ax (bg))) (.int .i64 (pZ z0 ax (bg))) (.int .i64 (pX x1 ax (hi))) (.int .i64 (pY y1 ax (hi))) (.int .i64 (pZ z1 ax (hi)))) (blk_lt (st6_far B_g4.out NE_g4_g3 (.int .i64 (pX x0 ax (bg))) (.int .i64 (pY y0 ax (bg))) (.int .i64 (pZ z0 ax (bg))) (.int .i64 (pX x1 ax (hi))) (.int .i64 (pY y1 ax (hi))) (.int .i64 (pZ z1 ax (hi))))) GE_g10 GE_g11 (st6_R HR.out (fun _ hk => hk.1) (.int .i64 (pX x0 ax (bg))) (.int .i64 (pY y0 ax (bg))) (.int .i64 (pZ z0 ax (bg))) (.int .i64 (pX x1 ax (hi))) (.int .i64 (pY y1 ax (hi))) (.int .i64 (pZ z1 ax (hi)))) (by have := HLN.out; have := sdL_len mk ax kf (bg - lo) (bg - kf) l; omega) hA (if hi - en ≤ kf then hi - en else kf) rfl hm2 (inB_put HI1.out ax en (en + (if hi - en ≤ kf then hi - en else kf)) (by omega) (by split <;> omega))).mono ?_
          rintro e we ⟨rfl, v2, hb10, hb11, hR, hB, hF⟩
          have q_g3 := Aside0.mk (st6_put B_g3.out (.int .i64 (pX x0 ax (bg))) (.int .i64 (pY y0 ax (bg))) (.int .i64 (pZ z0 ax (bg))) (.int .i64 (pX x1 ax (hi))) (.int .i64 (pY y1 ax (hi))) (.int .i64 (pZ z1 ax (hi))))
          have q_g4 := Aside0.mk (st6_far B_g4.out NE_g4_g3 (.int .i64 (pX x0 ax (bg))) (.int .i64 (pY y0 ax (bg))) (.int .i64 (pZ z0 ax (bg))) (.int .i64 (pX x1 ax (hi))) (.int .i64 (pY y1 ax (hi))) (.int .i64 (pZ z1 ax (hi))))
          have q_g5 := Aside0.mk (st6_far B_g5.out NE_g5_g3 (.int .i64 (pX x0 ax (bg))) (.int .i64 (pY y0 ax (bg))) (.int .i64 (pZ z0 ax (bg))) (.int .i64 (pX x1 ax (hi))) (.int .i64 (pY y1 ax (hi))) (.int .i64 (pZ z1 ax (hi))))
          have q_g10 := Aside0.mk (st6_far B_g10.out NE_g10_g3 (.int .i64 (pX x0 ax (bg))) (.int .i64 (pY y0 ax (bg))) (.int .i64 (pZ z0 ax (bg))) (.int .i64 (pX x1 ax (hi))) (.int .i64 (pY y1 ax (hi))) (.int .i64 (pZ z1 ax (hi))))
          have q_g11 := Aside0.mk (st6_far B_g11.out NE_g11_g3 (.int .i64 (pX x0 ax (bg))) (.int .i64 (pY y0 ax (bg))) (.int .i64 (pZ z0 ax (bg))) (.int .i64 (pX x1 ax (hi))) (.int .i64 (pY y1 ax (hi))) (.int .i64 (pZ z1 ax (hi))))
          have q_g12 := Aside0.mk (st6_far B_g12.out NE_g12_g3 (.int .i64 (pX x0 ax (bg))) (.int .i64 (pY y0 ax (bg))) (.int .i64 (pZ z0 ax (bg))) (.int .i64 (pX x1 ax (hi))) (.int .i64 (pY y1 ax (hi))) (.int .i64 (pZ z1 ax (hi))))
          have q_R := Aside0.mk (st6_R HR.out (fun _ hk => hk.1) (.int .i64 (pX x0 ax (bg))) (.int .i64 (pY y0 ax (bg))) (.int .i64 (pZ z0 ax (bg))) (.int .i64 (pX x1 ax (hi))) (.int .i64 (pY y1 ax (hi))) (.int .i64 (pZ z1 ax (hi))))
          clear HR B_g3 B_g4 B_g5 B_g10 B_g11 B_g12
          have B_g3 := q_g3
          have B_g4 := q_g4
          have B_g5 := q_g5
          have B_g10 := q_g10
          have B_g11 := q_g11
          have B_g12 := q_g12
          have HR := q_R
          clear q_R q_g3 q_g4 q_g5 q_g10 q_g11 q_g12
          have n_g3 := Aside0.mk (hF g3 _ B_g3.out NE_g3_g10 NE_g3_g11 (Kd.R_away HR.out (fun _ hk => hk.1)))
          have n_g4 := Aside0.mk (hF g4 _ B_g4.out NE_g4_g10 NE_g4_g11 (Kd.R_away HR.out (fun _ hk => hk.2.1)))
          have n_g5 := Aside0.mk (hF g5 _ B_g5.out NE_g5_g10 NE_g5_g11 (Kd.R_away HR.out (fun _ hk => hk.2.2.1)))
          have n_g12 := Aside0.mk (hF g12 _ B_g12.out NE_g12_g10 NE_g12_g11 (Kd.R_away HR.out (fun _ hk => hk.2.2.2.2.2)))
          have n_g10 := Aside0.mk hb10
          have n_g11 := Aside0.mk (show we.heap[g11]? = some (.cells #[.int .i64 (sdV (pX x0 ax (bg)) (pY y0 ax (bg)) (pZ z0 ax (bg)) (pX x1 ax (hi)) (pY y1 ax (hi)) (pZ z1 ax (hi)) ax kf (hi - en) (en) (sdV x0 y0 z0 x1 y1 z1 ax kf (bg - lo) (lo) lost))] 2 (0, 0)) from hb11)
          have n_R := Aside0.mk (show k.R 33 we w.heap.size (OKb g3 g4 g5 g10 g11 g12) v2 (sdL mk ax kf (hi - en) (en) (sdL mk ax kf (bg - lo) (bg - kf) l)) from hR)
          have n_B := Aside0.mk hB
          clear HR HB hb10 hb11 hR hB hF hm2 B_g3 B_g4 B_g5 B_g10 B_g11 B_g12
          have B_g3 := n_g3
          have B_g4 := n_g4
          have B_g5 := n_g5
          have B_g10 := n_g10
          have B_g11 := n_g11
          have B_g12 := n_g12
          have HR := n_R
          have HB := n_B
          clear n_R n_B n_g3 n_g4 n_g5 n_g10 n_g11 n_g12
          have hc_g3_0 : we.cell? ⟨g3, 0, none⟩ = some (.int .i64 (pX x0 ax (bg))) := (blk_cell B_g3.out 0).trans rfl
          have hf_g3_0 := blk_frozen B_g3.out 0
          have hc_g3_1 : we.cell? ⟨g3, 1, none⟩ = some (.int .i64 (pY y0 ax (bg))) := (blk_cell B_g3.out 1).trans rfl
          have hf_g3_1 := blk_frozen B_g3.out 1
          have hc_g3_2 : we.cell? ⟨g3, 2, none⟩ = some (.int .i64 (pZ z0 ax (bg))) := (blk_cell B_g3.out 2).trans rfl
          have hf_g3_2 := blk_frozen B_g3.out 2
          have hc_g3_3 : we.cell? ⟨g3, 3, none⟩ = some (.int .i64 (pX x1 ax (hi))) := (blk_cell B_g3.out 3).trans rfl
          have hf_g3_3 := blk_frozen B_g3.out 3
          have hc_g3_4 : we.cell? ⟨g3, 4, none⟩ = some (.int .i64 (pY y1 ax (hi))) := (blk_cell B_g3.out 4).trans rfl
          have hf_g3_4 := blk_frozen B_g3.out 4
          have hc_g3_5 : we.cell? ⟨g3, 5, none⟩ = some (.int .i64 (pZ z1 ax (hi))) := (blk_cell B_g3.out 5).trans rfl
          have hf_g3_5 := blk_frozen B_g3.out 5
          have hc_g12_0 : we.cell? ⟨g12, 0, none⟩ = some (.int .i64 ax) := (blk_cell B_g12.out 0).trans rfl
          have hf_g12_0 := blk_frozen B_g12.out 0
          go_wp2_with (first | ((with_reducible refine gate_callee (f := 43) rfl ?_); refine goesL_ (some 80) rfl rfl Try.func43 (by kernel_rfl) rfl #[.agg #[.int .i64 (pX x0 ax (bg)), .int .i64 (pY y0 ax (bg)), .int .i64 (pZ z0 ax (bg)), .int .i64 (pX x1 ax (hi)), .int .i64 (pY y1 ax (hi)), .int .i64 (pZ z1 ax (hi))], .int .i64 ax, .int .i64 bg, .int .i64 en] rfl (by (try simp only [List.map_toArray, List.map_cons, List.map_nil]); first | done | rfl) ?_; (with_reducible refine (btwD x0 y0 z0 x1 y1 z1 ax bg hi bg en hA _).mono ?_); rintro e wf ⟨rfl, hb⟩; refine ⟨_, rfl, ?_⟩; have n0_ := Aside0.mk (bL B_g3.out hb); have n1_ := Aside0.mk (bL B_g4.out hb); have n2_ := Aside0.mk (bL B_g5.out hb); have n3_ := Aside0.mk (bL B_g10.out hb); have n4_ := Aside0.mk (bL B_g11.out hb); have n5_ := Aside0.mk (bL B_g12.out hb); have nB_ := Aside0.mk (bbL HB.out hb); have nR_ := Aside0.mk (rbL HR.out hb); clear B_g3 B_g4 B_g5 B_g10 B_g11 B_g12 HB HR; have B_g3 := n0_; have B_g4 := n1_; have B_g5 := n2_; have B_g10 := n3_; have B_g11 := n4_; have B_g12 := n5_; have HB := nB_; have HR := nR_; clear n0_ n1_ n2_ n3_ n4_ n5_ nB_ nR_; clear hb; have hc_g3_0 : wf.cell? ⟨g3, 0, none⟩ = some (.int .i64 (pX x0 ax (bg))) := (blk_cell B_g3.out 0).trans rfl; have hf_g3_0 := blk_frozen B_g3.out 0; have hc_g3_1 : wf.cell? ⟨g3, 1, none⟩ = some (.int .i64 (pY y0 ax (bg))) := (blk_cell B_g3.out 1).trans rfl; have hf_g3_1 := blk_frozen B_g3.out 1; have hc_g3_2 : wf.cell? ⟨g3, 2, none⟩ = some (.int .i64 (pZ z0 ax (bg))) := (blk_cell B_g3.out 2).trans rfl; have hf_g3_2 := blk_frozen B_g3.out 2; have hc_g3_3 : wf.cell? ⟨g3, 3, none⟩ = some (.int .i64 (pX x1 ax (hi))) := (blk_cell B_g3.out 3).trans rfl; have hf_g3_3 := blk_frozen B_g3.out 3; have hc_g3_4 : wf.cell? ⟨g3, 4, none⟩ = some (.int .i64 (pY y1 ax (hi))) := (blk_cell B_g3.out 4).trans rfl; have hf_g3_4 := blk_frozen B_g3.out 4; have hc_g3_5 : wf.cell? ⟨g3, 5, none⟩ = some (.int .i64 (pZ z1 ax (hi))) := (blk_cell B_g3.out 5).trans rfl; have hf_g3_5 := blk_frozen B_g3.out 5))
          have HI2 := Aside0.mk (inv_put HI.out ax bg en (by omega) (by rw [← HBG.out]; omega) (by rw [← HEN.out]; omega) (by omega))
          go_roundg gn
          case measure => omega
          case rel => exact ⟨ax + 1, (pX x0 ax (bg)), (pY y0 ax (bg)), (pZ z0 ax (bg)), (pX x1 ax (en)), (pY y1 ax (en)), (pZ z1 ax (en)), (sdV (pX x0 ax (bg)) (pY y0 ax (bg)) (pZ z0 ax (bg)) (pX x1 ax (hi)) (pY y1 ax (hi)) (pZ z1 ax (hi)) ax kf (hi - en) (en) (sdV x0 y0 z0 x1 y1 z1 ax kf (bg - lo) (lo) lost)), v2, (sdL mk ax kf (hi - en) (en) (sdL mk ax kf (bg - lo) (bg - kf) l)), (by first | rfl | (simp; done) | (simp [*]; done)), (by simp only [Hid]; omega), ⟨H⟩, HI2, (by have := HLN.out; have q1 := sdL_len mk ax kf (bg - lo) (bg - kf) l; have q2 := sdL_len mk ax kf (hi - en) en (sdL mk ax kf (bg - lo) (bg - kf) l); simp only [Hid]; omega), ⟨Kd.R_mono (st6_R HR.out (fun _ hk => hk.1) (.int .i64 (pX x0 ax (bg))) (.int .i64 (pY y0 ax (bg))) (.int .i64 (pZ z0 ax (bg))) (.int .i64 (pX x1 ax (en))) (.int .i64 (pY y1 ax (en))) (.int .i64 (pZ z1 ax (en)))) (fun _ hk => ⟨hk.1, hk.2.1, hk.2.2.1, hk.2.2.2.1, hk.2.2.2.2.1⟩)⟩, ⟨(st6_put B_g3.out (.int .i64 (pX x0 ax (bg))) (.int .i64 (pY y0 ax (bg))) (.int .i64 (pZ z0 ax (bg))) (.int .i64 (pX x1 ax (en))) (.int .i64 (pY y1 ax (en))) (.int .i64 (pZ z1 ax (en))))⟩, ⟨(st6_far B_g4.out NE_g4_g3 (.int .i64 (pX x0 ax (bg))) (.int .i64 (pY y0 ax (bg))) (.int .i64 (pZ z0 ax (bg))) (.int .i64 (pX x1 ax (en))) (.int .i64 (pY y1 ax (en))) (.int .i64 (pZ z1 ax (en))))⟩, ⟨(st6_far B_g5.out NE_g5_g3 (.int .i64 (pX x0 ax (bg))) (.int .i64 (pY y0 ax (bg))) (.int .i64 (pZ z0 ax (bg))) (.int .i64 (pX x1 ax (en))) (.int .i64 (pY y1 ax (en))) (.int .i64 (pZ z1 ax (en))))⟩, ⟨(st6_far B_g10.out NE_g10_g3 (.int .i64 (pX x0 ax (bg))) (.int .i64 (pY y0 ax (bg))) (.int .i64 (pZ z0 ax (bg))) (.int .i64 (pX x1 ax (en))) (.int .i64 (pY y1 ax (en))) (.int .i64 (pZ z1 ax (en))))⟩, ⟨(st6_far B_g11.out NE_g11_g3 (.int .i64 (pX x0 ax (bg))) (.int .i64 (pY y0 ax (bg))) (.int .i64 (pZ z0 ax (bg))) (.int .i64 (pX x1 ax (en))) (.int .i64 (pY y1 ax (en))) (.int .i64 (pZ z1 ax (en))))⟩, ⟨(st6_B HB.out GE_g3 (.int .i64 (pX x0 ax (bg))) (.int .i64 (pY y0 ax (bg))) (.int .i64 (pZ z0 ax (bg))) (.int .i64 (pX x1 ax (en))) (.int .i64 (pY y1 ax (en))) (.int .i64 (pZ z1 ax (en))))⟩⟩
        · rw [if_neg c4] at H
          go_wp2_with (first | ((with_reducible refine gate_dst (N := 12) rfl ?_); refine box_event ?hg (N := 12) ?hd (cs := #[.int .i64 0]) (t := 3) ?hr ?_; (case hd => rfl); (case hg => rfl); (case hr => first | (go_simp; done) | (go_simp; rfl)); intro g12 hg w12 hbox hb; have GE_g12 : w.heap.size ≤ g12 := (by rw [hg]; exact (below_size (blL HB.out))); have NE_g3_g12 : g3 ≠ g12 := (by rw [hg]; exact Nat.ne_of_lt (lL B_g3.out)); have NE_g12_g3 := NE_g3_g12.symm; have NE_g4_g12 : g4 ≠ g12 := (by rw [hg]; exact Nat.ne_of_lt (lL B_g4.out)); have NE_g12_g4 := NE_g4_g12.symm; have NE_g5_g12 : g5 ≠ g12 := (by rw [hg]; exact Nat.ne_of_lt (lL B_g5.out)); have NE_g12_g5 := NE_g5_g12.symm; have NE_g10_g12 : g10 ≠ g12 := (by rw [hg]; exact Nat.ne_of_lt (lL B_g10.out)); have NE_g12_g10 := NE_g10_g12.symm; have NE_g11_g12 : g11 ≠ g12 := (by rw [hg]; exact Nat.ne_of_lt (lL B_g11.out)); have NE_g12_g11 := NE_g11_g12.symm; have HRq := Aside0.mk (Kd.R_mono (Kd.R_bound HR.out) (fun j hj => (⟨hj.1.1, hj.1.2.1, hj.1.2.2.1, hj.1.2.2.2.1, hj.1.2.2.2.2, by rw [hg]; exact Nat.ne_of_lt hj.2.2.1⟩ : OKb g3 g4 g5 g10 g11 g12 j))); clear HR; have HR := HRq; clear HRq; have n0_ := Aside0.mk (bL B_g3.out hb); have n1_ := Aside0.mk (bL B_g4.out hb); have n2_ := Aside0.mk (bL B_g5.out hb); have n3_ := Aside0.mk (bL B_g10.out hb); have n4_ := Aside0.mk (bL B_g11.out hb); have nB_ := Aside0.mk (bbL HB.out hb); have nR_ := Aside0.mk (rbL HR.out hb); clear B_g3 B_g4 B_g5 B_g10 B_g11 HB HR; have B_g3 := n0_; have B_g4 := n1_; have B_g5 := n2_; have B_g10 := n3_; have B_g11 := n4_; have HB := nB_; have HR := nR_; clear n0_ n1_ n2_ n3_ n4_ nB_ nR_; have B_g12 := Aside0.mk hbox; clear hb hbox hg; have hc_g3_0 : w12.cell? ⟨g3, 0, none⟩ = some (.int .i64 x0) := (blk_cell B_g3.out 0).trans rfl; have hf_g3_0 := blk_frozen B_g3.out 0; have hc_g3_1 : w12.cell? ⟨g3, 1, none⟩ = some (.int .i64 y0) := (blk_cell B_g3.out 1).trans rfl; have hf_g3_1 := blk_frozen B_g3.out 1; have hc_g3_2 : w12.cell? ⟨g3, 2, none⟩ = some (.int .i64 z0) := (blk_cell B_g3.out 2).trans rfl; have hf_g3_2 := blk_frozen B_g3.out 2; have hc_g3_3 : w12.cell? ⟨g3, 3, none⟩ = some (.int .i64 x1) := (blk_cell B_g3.out 3).trans rfl; have hf_g3_3 := blk_frozen B_g3.out 3; have hc_g3_4 : w12.cell? ⟨g3, 4, none⟩ = some (.int .i64 y1) := (blk_cell B_g3.out 4).trans rfl; have hf_g3_4 := blk_frozen B_g3.out 4; have hc_g3_5 : w12.cell? ⟨g3, 5, none⟩ = some (.int .i64 z1) := (blk_cell B_g3.out 5).trans rfl; have hf_g3_5 := blk_frozen B_g3.out 5; have hc_g12_0 : w12.cell? ⟨g12, 0, none⟩ = some (.int .i64 0) := (blk_cell B_g12.out 0).trans rfl; have hf_g12_0 := blk_frozen B_g12.out 0) | ((with_reducible refine gate_callee (f := 42) rfl ?_); refine goesL_ (some 39) rfl rfl Try.func42 (by kernel_rfl) rfl #[.agg #[.int .i64 x0, .int .i64 y0, .int .i64 z0, .int .i64 x1, .int .i64 y1, .int .i64 z1], .int .i64 ax] rfl (by (try simp only [List.map_toArray, List.map_cons, List.map_nil]); first | done | rfl) ?_; (with_reducible refine (endD x0 y0 z0 x1 y1 z1 ax lo hi HLO.out HHI.out hA _).mono ?_); rintro e wa ⟨rfl, hb⟩; refine ⟨_, rfl, ?_⟩; have n0_ := Aside0.mk (blk_below (blk_far B_g3.out (p := ⟨g12, 0, none⟩) NE_g3_g12 (.int .i64 ax)) hb); have n1_ := Aside0.mk (blk_below (blk_far B_g4.out (p := ⟨g12, 0, none⟩) NE_g4_g12 (.int .i64 ax)) hb); have n2_ := Aside0.mk (blk_below (blk_far B_g5.out (p := ⟨g12, 0, none⟩) NE_g5_g12 (.int .i64 ax)) hb); have n3_ := Aside0.mk (blk_below (blk_far B_g10.out (p := ⟨g12, 0, none⟩) NE_g10_g12 (.int .i64 ax)) hb); have n4_ := Aside0.mk (blk_below (blk_far B_g11.out (p := ⟨g12, 0, none⟩) NE_g11_g12 (.int .i64 ax)) hb); have n5_ := Aside0.mk (blk_below (blk_put (cs' := #[.int .i64 ax]) B_g12.out 0 (.int .i64 ax) rfl) hb); have nB_ := Aside0.mk (below_step (below_set HB.out GE_g12) hb); have nR_ := Aside0.mk (Kd.R_below (Kd.R_far HR.out (p := ⟨g12, 0, none⟩) (fun _ hk => hk.2.2.2.2.2) (.int .i64 ax)) hb); clear B_g3 B_g4 B_g5 B_g10 B_g11 B_g12 HB HR; have B_g3 := n0_; have B_g4 := n1_; have B_g5 := n2_; have B_g10 := n3_; have B_g11 := n4_; have B_g12 := n5_; have HB := nB_; have HR := nR_; clear nB_ nR_ n0_ n1_ n2_ n3_ n4_ n5_; clear hb; have hc_g4_0 : wa.cell? ⟨g4, 0, none⟩ = some (.int .i64 p0) := (blk_cell B_g4.out 0).trans rfl; have hf_g4_0 := blk_frozen B_g4.out 0; have hc_g4_1 : wa.cell? ⟨g4, 1, none⟩ = some (.int .i64 q0) := (blk_cell B_g4.out 1).trans rfl; have hf_g4_1 := blk_frozen B_g4.out 1; have hc_g4_2 : wa.cell? ⟨g4, 2, none⟩ = some (.int .i64 r0) := (blk_cell B_g4.out 2).trans rfl; have hf_g4_2 := blk_frozen B_g4.out 2; have hc_g4_3 : wa.cell? ⟨g4, 3, none⟩ = some (.int .i64 p1) := (blk_cell B_g4.out 3).trans rfl; have hf_g4_3 := blk_frozen B_g4.out 3; have hc_g4_4 : wa.cell? ⟨g4, 4, none⟩ = some (.int .i64 q1) := (blk_cell B_g4.out 4).trans rfl; have hf_g4_4 := blk_frozen B_g4.out 4; have hc_g4_5 : wa.cell? ⟨g4, 5, none⟩ = some (.int .i64 r1) := (blk_cell B_g4.out 5).trans rfl; have hf_g4_5 := blk_frozen B_g4.out 5; have hc_g12_0 : wa.cell? ⟨g12, 0, none⟩ = some (.int .i64 ax) := (blk_cell B_g12.out 0).trans rfl; have hf_g12_0 := blk_frozen B_g12.out 0) | ((with_reducible refine gate_callee (f := 42) rfl ?_); refine goesL_ (some 45) rfl rfl Try.func42 (by kernel_rfl) rfl #[.agg #[.int .i64 p0, .int .i64 q0, .int .i64 r0, .int .i64 p1, .int .i64 q1, .int .i64 r1], .int .i64 ax] rfl (by (try simp only [List.map_toArray, List.map_cons, List.map_nil]); first | done | rfl) ?_; (with_reducible refine (endD p0 q0 r0 p1 q1 r1 ax bg en HBG.out HEN.out hA _).mono ?_); rintro e wb ⟨rfl, hb⟩; refine ⟨_, rfl, ?_⟩; have n0_ := Aside0.mk (bL B_g3.out hb); have n1_ := Aside0.mk (bL B_g4.out hb); have n2_ := Aside0.mk (bL B_g5.out hb); have n3_ := Aside0.mk (bL B_g10.out hb); have n4_ := Aside0.mk (bL B_g11.out hb); have n5_ := Aside0.mk (bL B_g12.out hb); have nB_ := Aside0.mk (bbL HB.out hb); have nR_ := Aside0.mk (rbL HR.out hb); clear B_g3 B_g4 B_g5 B_g10 B_g11 B_g12 HB HR; have B_g3 := n0_; have B_g4 := n1_; have B_g5 := n2_; have B_g10 := n3_; have B_g11 := n4_; have B_g12 := n5_; have HB := nB_; have HR := nR_; clear n0_ n1_ n2_ n3_ n4_ n5_ nB_ nR_; clear hb; have hc_g5_0 : wb.cell? ⟨g5, 0, none⟩ = some (.int .i64 kf) := (blk_cell B_g5.out 0).trans rfl; have hf_g5_0 := blk_frozen B_g5.out 0))
          have hm1 : IntKind.i64.wrap (lo + (if bg - lo ≤ kf then bg - lo else kf)) = lo + (if bg - lo ≤ kf then bg - lo else kf) := wrap_i64 (by split <;> omega) (by split <;> omega)
          refine (clo k mk hM hsz w.heap.size w _ HB.out g3 g4 g5 g10 g11 g12 x0 y0 z0 x1 y1 z1 kf lost ax (bg - lo) (bg - kf) (lo) v l B_g3.out B_g5.out B_g10.out B_g11.out B_g12.out (blk_lt B_g4.out) GE_g10 GE_g11 HR.out (by have := HLN.out; omega) hA (if bg - lo ≤ kf then bg - lo else kf) rfl hm1 (inB_put HI.out ax lo (lo + (if bg - lo ≤ kf then bg - lo else kf)) (by omega) (by split <;> omega))).mono ?_
          rintro e wc ⟨rfl, v1, hb10, hb11, hR, hB, hF⟩
          have n_g3 := Aside0.mk (hF g3 _ B_g3.out NE_g3_g10 NE_g3_g11 (Kd.R_away HR.out (fun _ hk => hk.1)))
          have n_g4 := Aside0.mk (hF g4 _ B_g4.out NE_g4_g10 NE_g4_g11 (Kd.R_away HR.out (fun _ hk => hk.2.1)))
          have n_g5 := Aside0.mk (hF g5 _ B_g5.out NE_g5_g10 NE_g5_g11 (Kd.R_away HR.out (fun _ hk => hk.2.2.1)))
          have n_g12 := Aside0.mk (hF g12 _ B_g12.out NE_g12_g10 NE_g12_g11 (Kd.R_away HR.out (fun _ hk => hk.2.2.2.2.2)))
          have n_g10 := Aside0.mk hb10
          have n_g11 := Aside0.mk (show wc.heap[g11]? = some (.cells #[.int .i64 (sdV x0 y0 z0 x1 y1 z1 ax kf (bg - lo) (lo) lost)] 2 (0, 0)) from hb11)
          have n_R := Aside0.mk (show k.R 33 wc w.heap.size (OKb g3 g4 g5 g10 g11 g12) v1 (sdL mk ax kf (bg - lo) (bg - kf) l) from hR)
          have n_B := Aside0.mk hB
          clear HR HB hb10 hb11 hR hB hF hm1 B_g3 B_g4 B_g5 B_g10 B_g11 B_g12
          have B_g3 := n_g3
          have B_g4 := n_g4
          have B_g5 := n_g5
          have B_g10 := n_g10
          have B_g11 := n_g11
          have B_g12 := n_g12
          have HR := n_R
          have HB := n_B
          clear n_R n_B n_g3 n_g4 n_g5 n_g10 n_g11 n_g12
          have hc_g3_0 : wc.cell? ⟨g3, 0, none⟩ = some (.int .i64 x0) := (blk_cell B_g3.out 0).trans rfl
          have hf_g3_0 := blk_frozen B_g3.out 0
          have hc_g3_1 : wc.cell? ⟨g3, 1, none⟩ = some (.int .i64 y0) := (blk_cell B_g3.out 1).trans rfl
          have hf_g3_1 := blk_frozen B_g3.out 1
          have hc_g3_2 : wc.cell? ⟨g3, 2, none⟩ = some (.int .i64 z0) := (blk_cell B_g3.out 2).trans rfl
          have hf_g3_2 := blk_frozen B_g3.out 2
          have hc_g3_3 : wc.cell? ⟨g3, 3, none⟩ = some (.int .i64 x1) := (blk_cell B_g3.out 3).trans rfl
          have hf_g3_3 := blk_frozen B_g3.out 3
          have hc_g3_4 : wc.cell? ⟨g3, 4, none⟩ = some (.int .i64 y1) := (blk_cell B_g3.out 4).trans rfl
          have hf_g3_4 := blk_frozen B_g3.out 4
          have hc_g3_5 : wc.cell? ⟨g3, 5, none⟩ = some (.int .i64 z1) := (blk_cell B_g3.out 5).trans rfl
          have hf_g3_5 := blk_frozen B_g3.out 5
          have hc_g12_0 : wc.cell? ⟨g12, 0, none⟩ = some (.int .i64 ax) := (blk_cell B_g12.out 0).trans rfl
          have hf_g12_0 := blk_frozen B_g12.out 0
          go_wp2_with (first | ((with_reducible refine gate_callee (f := 43) rfl ?_); refine goesL_ (some 65) rfl rfl Try.func43 (by kernel_rfl) rfl #[.agg #[.int .i64 x0, .int .i64 y0, .int .i64 z0, .int .i64 x1, .int .i64 y1, .int .i64 z1], .int .i64 ax, .int .i64 bg, .int .i64 hi] rfl (by (try simp only [List.map_toArray, List.map_cons, List.map_nil]); first | done | rfl) ?_; (with_reducible refine (btwC x0 y0 z0 x1 y1 z1 ax bg hi hA _).mono ?_); rintro e wd ⟨rfl, hb⟩; refine ⟨_, rfl, ?_⟩; have n0_ := Aside0.mk (bL B_g3.out hb); have n1_ := Aside0.mk (bL B_g4.out hb); have n2_ := Aside0.mk (bL B_g5.out hb); have n3_ := Aside0.mk (bL B_g10.out hb); have n4_ := Aside0.mk (bL B_g11.out hb); have n5_ := Aside0.mk (bL B_g12.out hb); have nB_ := Aside0.mk (bbL HB.out hb); have nR_ := Aside0.mk (rbL HR.out hb); clear B_g3 B_g4 B_g5 B_g10 B_g11 B_g12 HB HR; have B_g3 := n0_; have B_g4 := n1_; have B_g5 := n2_; have B_g10 := n3_; have B_g11 := n4_; have B_g12 := n5_; have HB := nB_; have HR := nR_; clear n0_ n1_ n2_ n3_ n4_ n5_ nB_ nR_; clear hb; have hc_g3_0 : wd.cell? ⟨g3, 0, none⟩ = some (.int .i64 x0) := (blk_cell B_g3.out 0).trans rfl; have hf_g3_0 := blk_frozen B_g3.out 0; have hc_g3_1 : wd.cell? ⟨g3, 1, none⟩ = some (.int .i64 y0) := (blk_cell B_g3.out 1).trans rfl; have hf_g3_1 := blk_frozen B_g3.out 1; have hc_g3_2 : wd.cell? ⟨g3, 2, none⟩ = some (.int .i64 z0) := (blk_cell B_g3.out 2).trans rfl; have hf_g3_2 := blk_frozen B_g3.out 2; have hc_g3_3 : wd.cell? ⟨g3, 3, none⟩ = some (.int .i64 x1) := (blk_cell B_g3.out 3).trans rfl; have hf_g3_3 := blk_frozen B_g3.out 3; have hc_g3_4 : wd.cell? ⟨g3, 4, none⟩ = some (.int .i64 y1) := (blk_cell B_g3.out 4).trans rfl; have hf_g3_4 := blk_frozen B_g3.out 4; have hc_g3_5 : wd.cell? ⟨g3, 5, none⟩ = some (.int .i64 z1) := (blk_cell B_g3.out 5).trans rfl; have hf_g3_5 := blk_frozen B_g3.out 5))
          have HI1 := Aside0.mk (inv_put HI.out ax bg hi (by omega) (by rw [← HBG.out]; omega) (by rw [← HEN.out]; omega) (by omega))
          go_roundg gn
          case measure => omega
          case rel => exact ⟨ax + 1, (pX x0 ax (bg)), (pY y0 ax (bg)), (pZ z0 ax (bg)), (pX x1 ax (hi)), (pY y1 ax (hi)), (pZ z1 ax (hi)), (sdV x0 y0 z0 x1 y1 z1 ax kf (bg - lo) (lo) lost), v1, (sdL mk ax kf (bg - lo) (bg - kf) l), (by first | rfl | (simp; done) | (simp [*]; done)), (by simp only [Hid]; omega), ⟨H⟩, HI1, (by have := HLN.out; have q1 := sdL_len mk ax kf (bg - lo) (bg - kf) l; simp only [Hid]; omega), ⟨Kd.R_mono (st6_R HR.out (fun _ hk => hk.1) (.int .i64 (pX x0 ax (bg))) (.int .i64 (pY y0 ax (bg))) (.int .i64 (pZ z0 ax (bg))) (.int .i64 (pX x1 ax (hi))) (.int .i64 (pY y1 ax (hi))) (.int .i64 (pZ z1 ax (hi)))) (fun _ hk => ⟨hk.1, hk.2.1, hk.2.2.1, hk.2.2.2.1, hk.2.2.2.2.1⟩)⟩, ⟨(st6_put B_g3.out (.int .i64 (pX x0 ax (bg))) (.int .i64 (pY y0 ax (bg))) (.int .i64 (pZ z0 ax (bg))) (.int .i64 (pX x1 ax (hi))) (.int .i64 (pY y1 ax (hi))) (.int .i64 (pZ z1 ax (hi))))⟩, ⟨(st6_far B_g4.out NE_g4_g3 (.int .i64 (pX x0 ax (bg))) (.int .i64 (pY y0 ax (bg))) (.int .i64 (pZ z0 ax (bg))) (.int .i64 (pX x1 ax (hi))) (.int .i64 (pY y1 ax (hi))) (.int .i64 (pZ z1 ax (hi))))⟩, ⟨(st6_far B_g5.out NE_g5_g3 (.int .i64 (pX x0 ax (bg))) (.int .i64 (pY y0 ax (bg))) (.int .i64 (pZ z0 ax (bg))) (.int .i64 (pX x1 ax (hi))) (.int .i64 (pY y1 ax (hi))) (.int .i64 (pZ z1 ax (hi))))⟩, ⟨(st6_far B_g10.out NE_g10_g3 (.int .i64 (pX x0 ax (bg))) (.int .i64 (pY y0 ax (bg))) (.int .i64 (pZ z0 ax (bg))) (.int .i64 (pX x1 ax (hi))) (.int .i64 (pY y1 ax (hi))) (.int .i64 (pZ z1 ax (hi))))⟩, ⟨(st6_far B_g11.out NE_g11_g3 (.int .i64 (pX x0 ax (bg))) (.int .i64 (pY y0 ax (bg))) (.int .i64 (pZ z0 ax (bg))) (.int .i64 (pX x1 ax (hi))) (.int .i64 (pY y1 ax (hi))) (.int .i64 (pZ z1 ax (hi))))⟩, ⟨(st6_B HB.out GE_g3 (.int .i64 (pX x0 ax (bg))) (.int .i64 (pY y0 ax (bg))) (.int .i64 (pZ z0 ax (bg))) (.int .i64 (pX x1 ax (hi))) (.int .i64 (pY y1 ax (hi))) (.int .i64 (pZ z1 ax (hi))))⟩⟩
      · rw [if_neg c3] at H
        by_cases c4 : en < hi
        · rw [if_pos c4] at H
          go_wp2_with (first | ((with_reducible refine gate_dst (N := 12) rfl ?_); refine box_event ?hg (N := 12) ?hd (cs := #[.int .i64 0]) (t := 3) ?hr ?_; (case hd => rfl); (case hg => rfl); (case hr => first | (go_simp; done) | (go_simp; rfl)); intro g12 hg w12 hbox hb; have GE_g12 : w.heap.size ≤ g12 := (by rw [hg]; exact (below_size (blL HB.out))); have NE_g3_g12 : g3 ≠ g12 := (by rw [hg]; exact Nat.ne_of_lt (lL B_g3.out)); have NE_g12_g3 := NE_g3_g12.symm; have NE_g4_g12 : g4 ≠ g12 := (by rw [hg]; exact Nat.ne_of_lt (lL B_g4.out)); have NE_g12_g4 := NE_g4_g12.symm; have NE_g5_g12 : g5 ≠ g12 := (by rw [hg]; exact Nat.ne_of_lt (lL B_g5.out)); have NE_g12_g5 := NE_g5_g12.symm; have NE_g10_g12 : g10 ≠ g12 := (by rw [hg]; exact Nat.ne_of_lt (lL B_g10.out)); have NE_g12_g10 := NE_g10_g12.symm; have NE_g11_g12 : g11 ≠ g12 := (by rw [hg]; exact Nat.ne_of_lt (lL B_g11.out)); have NE_g12_g11 := NE_g11_g12.symm; have HRq := Aside0.mk (Kd.R_mono (Kd.R_bound HR.out) (fun j hj => (⟨hj.1.1, hj.1.2.1, hj.1.2.2.1, hj.1.2.2.2.1, hj.1.2.2.2.2, by rw [hg]; exact Nat.ne_of_lt hj.2.2.1⟩ : OKb g3 g4 g5 g10 g11 g12 j))); clear HR; have HR := HRq; clear HRq; have n0_ := Aside0.mk (bL B_g3.out hb); have n1_ := Aside0.mk (bL B_g4.out hb); have n2_ := Aside0.mk (bL B_g5.out hb); have n3_ := Aside0.mk (bL B_g10.out hb); have n4_ := Aside0.mk (bL B_g11.out hb); have nB_ := Aside0.mk (bbL HB.out hb); have nR_ := Aside0.mk (rbL HR.out hb); clear B_g3 B_g4 B_g5 B_g10 B_g11 HB HR; have B_g3 := n0_; have B_g4 := n1_; have B_g5 := n2_; have B_g10 := n3_; have B_g11 := n4_; have HB := nB_; have HR := nR_; clear n0_ n1_ n2_ n3_ n4_ nB_ nR_; have B_g12 := Aside0.mk hbox; clear hb hbox hg; have hc_g3_0 : w12.cell? ⟨g3, 0, none⟩ = some (.int .i64 x0) := (blk_cell B_g3.out 0).trans rfl; have hf_g3_0 := blk_frozen B_g3.out 0; have hc_g3_1 : w12.cell? ⟨g3, 1, none⟩ = some (.int .i64 y0) := (blk_cell B_g3.out 1).trans rfl; have hf_g3_1 := blk_frozen B_g3.out 1; have hc_g3_2 : w12.cell? ⟨g3, 2, none⟩ = some (.int .i64 z0) := (blk_cell B_g3.out 2).trans rfl; have hf_g3_2 := blk_frozen B_g3.out 2; have hc_g3_3 : w12.cell? ⟨g3, 3, none⟩ = some (.int .i64 x1) := (blk_cell B_g3.out 3).trans rfl; have hf_g3_3 := blk_frozen B_g3.out 3; have hc_g3_4 : w12.cell? ⟨g3, 4, none⟩ = some (.int .i64 y1) := (blk_cell B_g3.out 4).trans rfl; have hf_g3_4 := blk_frozen B_g3.out 4; have hc_g3_5 : w12.cell? ⟨g3, 5, none⟩ = some (.int .i64 z1) := (blk_cell B_g3.out 5).trans rfl; have hf_g3_5 := blk_frozen B_g3.out 5; have hc_g12_0 : w12.cell? ⟨g12, 0, none⟩ = some (.int .i64 0) := (blk_cell B_g12.out 0).trans rfl; have hf_g12_0 := blk_frozen B_g12.out 0) | ((with_reducible refine gate_callee (f := 42) rfl ?_); refine goesL_ (some 39) rfl rfl Try.func42 (by kernel_rfl) rfl #[.agg #[.int .i64 x0, .int .i64 y0, .int .i64 z0, .int .i64 x1, .int .i64 y1, .int .i64 z1], .int .i64 ax] rfl (by (try simp only [List.map_toArray, List.map_cons, List.map_nil]); first | done | rfl) ?_; (with_reducible refine (endD x0 y0 z0 x1 y1 z1 ax lo hi HLO.out HHI.out hA _).mono ?_); rintro e wa ⟨rfl, hb⟩; refine ⟨_, rfl, ?_⟩; have n0_ := Aside0.mk (blk_below (blk_far B_g3.out (p := ⟨g12, 0, none⟩) NE_g3_g12 (.int .i64 ax)) hb); have n1_ := Aside0.mk (blk_below (blk_far B_g4.out (p := ⟨g12, 0, none⟩) NE_g4_g12 (.int .i64 ax)) hb); have n2_ := Aside0.mk (blk_below (blk_far B_g5.out (p := ⟨g12, 0, none⟩) NE_g5_g12 (.int .i64 ax)) hb); have n3_ := Aside0.mk (blk_below (blk_far B_g10.out (p := ⟨g12, 0, none⟩) NE_g10_g12 (.int .i64 ax)) hb); have n4_ := Aside0.mk (blk_below (blk_far B_g11.out (p := ⟨g12, 0, none⟩) NE_g11_g12 (.int .i64 ax)) hb); have n5_ := Aside0.mk (blk_below (blk_put (cs' := #[.int .i64 ax]) B_g12.out 0 (.int .i64 ax) rfl) hb); have nB_ := Aside0.mk (below_step (below_set HB.out GE_g12) hb); have nR_ := Aside0.mk (Kd.R_below (Kd.R_far HR.out (p := ⟨g12, 0, none⟩) (fun _ hk => hk.2.2.2.2.2) (.int .i64 ax)) hb); clear B_g3 B_g4 B_g5 B_g10 B_g11 B_g12 HB HR; have B_g3 := n0_; have B_g4 := n1_; have B_g5 := n2_; have B_g10 := n3_; have B_g11 := n4_; have B_g12 := n5_; have HB := nB_; have HR := nR_; clear nB_ nR_ n0_ n1_ n2_ n3_ n4_ n5_; clear hb; have hc_g4_0 : wa.cell? ⟨g4, 0, none⟩ = some (.int .i64 p0) := (blk_cell B_g4.out 0).trans rfl; have hf_g4_0 := blk_frozen B_g4.out 0; have hc_g4_1 : wa.cell? ⟨g4, 1, none⟩ = some (.int .i64 q0) := (blk_cell B_g4.out 1).trans rfl; have hf_g4_1 := blk_frozen B_g4.out 1; have hc_g4_2 : wa.cell? ⟨g4, 2, none⟩ = some (.int .i64 r0) := (blk_cell B_g4.out 2).trans rfl; have hf_g4_2 := blk_frozen B_g4.out 2; have hc_g4_3 : wa.cell? ⟨g4, 3, none⟩ = some (.int .i64 p1) := (blk_cell B_g4.out 3).trans rfl; have hf_g4_3 := blk_frozen B_g4.out 3; have hc_g4_4 : wa.cell? ⟨g4, 4, none⟩ = some (.int .i64 q1) := (blk_cell B_g4.out 4).trans rfl; have hf_g4_4 := blk_frozen B_g4.out 4; have hc_g4_5 : wa.cell? ⟨g4, 5, none⟩ = some (.int .i64 r1) := (blk_cell B_g4.out 5).trans rfl; have hf_g4_5 := blk_frozen B_g4.out 5; have hc_g12_0 : wa.cell? ⟨g12, 0, none⟩ = some (.int .i64 ax) := (blk_cell B_g12.out 0).trans rfl; have hf_g12_0 := blk_frozen B_g12.out 0) | ((with_reducible refine gate_callee (f := 42) rfl ?_); refine goesL_ (some 45) rfl rfl Try.func42 (by kernel_rfl) rfl #[.agg #[.int .i64 p0, .int .i64 q0, .int .i64 r0, .int .i64 p1, .int .i64 q1, .int .i64 r1], .int .i64 ax] rfl (by (try simp only [List.map_toArray, List.map_cons, List.map_nil]); first | done | rfl) ?_; (with_reducible refine (endD p0 q0 r0 p1 q1 r1 ax bg en HBG.out HEN.out hA _).mono ?_); rintro e wb ⟨rfl, hb⟩; refine ⟨_, rfl, ?_⟩; have n0_ := Aside0.mk (bL B_g3.out hb); have n1_ := Aside0.mk (bL B_g4.out hb); have n2_ := Aside0.mk (bL B_g5.out hb); have n3_ := Aside0.mk (bL B_g10.out hb); have n4_ := Aside0.mk (bL B_g11.out hb); have n5_ := Aside0.mk (bL B_g12.out hb); have nB_ := Aside0.mk (bbL HB.out hb); have nR_ := Aside0.mk (rbL HR.out hb); clear B_g3 B_g4 B_g5 B_g10 B_g11 B_g12 HB HR; have B_g3 := n0_; have B_g4 := n1_; have B_g5 := n2_; have B_g10 := n3_; have B_g11 := n4_; have B_g12 := n5_; have HB := nB_; have HR := nR_; clear n0_ n1_ n2_ n3_ n4_ n5_ nB_ nR_; clear hb; have hc_g5_0 : wb.cell? ⟨g5, 0, none⟩ = some (.int .i64 kf) := (blk_cell B_g5.out 0).trans rfl; have hf_g5_0 := blk_frozen B_g5.out 0))
          have hm2 : IntKind.i64.wrap (en + (if hi - en ≤ kf then hi - en else kf)) = en + (if hi - en ≤ kf then hi - en else kf) := wrap_i64 (by split <;> omega) (by split <;> omega)
          refine (clo k mk hM hsz w.heap.size w _ HB.out g3 g4 g5 g10 g11 g12 x0 y0 z0 x1 y1 z1 kf lost ax (hi - en) (en) (en) v l B_g3.out B_g5.out B_g10.out B_g11.out B_g12.out (blk_lt B_g4.out) GE_g10 GE_g11 HR.out (by have := HLN.out; omega) hA (if hi - en ≤ kf then hi - en else kf) rfl hm2 (inB_put HI.out ax en (en + (if hi - en ≤ kf then hi - en else kf)) (by omega) (by split <;> omega))).mono ?_
          rintro e we ⟨rfl, v2, hb10, hb11, hR, hB, hF⟩
          have n_g3 := Aside0.mk (hF g3 _ B_g3.out NE_g3_g10 NE_g3_g11 (Kd.R_away HR.out (fun _ hk => hk.1)))
          have n_g4 := Aside0.mk (hF g4 _ B_g4.out NE_g4_g10 NE_g4_g11 (Kd.R_away HR.out (fun _ hk => hk.2.1)))
          have n_g5 := Aside0.mk (hF g5 _ B_g5.out NE_g5_g10 NE_g5_g11 (Kd.R_away HR.out (fun _ hk => hk.2.2.1)))
          have n_g12 := Aside0.mk (hF g12 _ B_g12.out NE_g12_g10 NE_g12_g11 (Kd.R_away HR.out (fun _ hk => hk.2.2.2.2.2)))
          have n_g10 := Aside0.mk hb10
          have n_g11 := Aside0.mk (show we.heap[g11]? = some (.cells #[.int .i64 (sdV x0 y0 z0 x1 y1 z1 ax kf (hi - en) (en) lost)] 2 (0, 0)) from hb11)
          have n_R := Aside0.mk (show k.R 33 we w.heap.size (OKb g3 g4 g5 g10 g11 g12) v2 (sdL mk ax kf (hi - en) (en) l) from hR)
          have n_B := Aside0.mk hB
          clear HR HB hb10 hb11 hR hB hF hm2 B_g3 B_g4 B_g5 B_g10 B_g11 B_g12
          have B_g3 := n_g3
          have B_g4 := n_g4
          have B_g5 := n_g5
          have B_g10 := n_g10
          have B_g11 := n_g11
          have B_g12 := n_g12
          have HR := n_R
          have HB := n_B
          clear n_R n_B n_g3 n_g4 n_g5 n_g10 n_g11 n_g12
          have hc_g3_0 : we.cell? ⟨g3, 0, none⟩ = some (.int .i64 x0) := (blk_cell B_g3.out 0).trans rfl
          have hf_g3_0 := blk_frozen B_g3.out 0
          have hc_g3_1 : we.cell? ⟨g3, 1, none⟩ = some (.int .i64 y0) := (blk_cell B_g3.out 1).trans rfl
          have hf_g3_1 := blk_frozen B_g3.out 1
          have hc_g3_2 : we.cell? ⟨g3, 2, none⟩ = some (.int .i64 z0) := (blk_cell B_g3.out 2).trans rfl
          have hf_g3_2 := blk_frozen B_g3.out 2
          have hc_g3_3 : we.cell? ⟨g3, 3, none⟩ = some (.int .i64 x1) := (blk_cell B_g3.out 3).trans rfl
          have hf_g3_3 := blk_frozen B_g3.out 3
          have hc_g3_4 : we.cell? ⟨g3, 4, none⟩ = some (.int .i64 y1) := (blk_cell B_g3.out 4).trans rfl
          have hf_g3_4 := blk_frozen B_g3.out 4
          have hc_g3_5 : we.cell? ⟨g3, 5, none⟩ = some (.int .i64 z1) := (blk_cell B_g3.out 5).trans rfl
          have hf_g3_5 := blk_frozen B_g3.out 5
          have hc_g12_0 : we.cell? ⟨g12, 0, none⟩ = some (.int .i64 ax) := (blk_cell B_g12.out 0).trans rfl
          have hf_g12_0 := blk_frozen B_g12.out 0
          go_wp2_with (first | ((with_reducible refine gate_callee (f := 43) rfl ?_); refine goesL_ (some 80) rfl rfl Try.func43 (by kernel_rfl) rfl #[.agg #[.int .i64 x0, .int .i64 y0, .int .i64 z0, .int .i64 x1, .int .i64 y1, .int .i64 z1], .int .i64 ax, .int .i64 bg, .int .i64 en] rfl (by (try simp only [List.map_toArray, List.map_cons, List.map_nil]); first | done | rfl) ?_; (with_reducible refine (btwC x0 y0 z0 x1 y1 z1 ax bg en hA _).mono ?_); rintro e wf ⟨rfl, hb⟩; refine ⟨_, rfl, ?_⟩; have n0_ := Aside0.mk (bL B_g3.out hb); have n1_ := Aside0.mk (bL B_g4.out hb); have n2_ := Aside0.mk (bL B_g5.out hb); have n3_ := Aside0.mk (bL B_g10.out hb); have n4_ := Aside0.mk (bL B_g11.out hb); have n5_ := Aside0.mk (bL B_g12.out hb); have nB_ := Aside0.mk (bbL HB.out hb); have nR_ := Aside0.mk (rbL HR.out hb); clear B_g3 B_g4 B_g5 B_g10 B_g11 B_g12 HB HR; have B_g3 := n0_; have B_g4 := n1_; have B_g5 := n2_; have B_g10 := n3_; have B_g11 := n4_; have B_g12 := n5_; have HB := nB_; have HR := nR_; clear n0_ n1_ n2_ n3_ n4_ n5_ nB_ nR_; clear hb; have hc_g3_0 : wf.cell? ⟨g3, 0, none⟩ = some (.int .i64 x0) := (blk_cell B_g3.out 0).trans rfl; have hf_g3_0 := blk_frozen B_g3.out 0; have hc_g3_1 : wf.cell? ⟨g3, 1, none⟩ = some (.int .i64 y0) := (blk_cell B_g3.out 1).trans rfl; have hf_g3_1 := blk_frozen B_g3.out 1; have hc_g3_2 : wf.cell? ⟨g3, 2, none⟩ = some (.int .i64 z0) := (blk_cell B_g3.out 2).trans rfl; have hf_g3_2 := blk_frozen B_g3.out 2; have hc_g3_3 : wf.cell? ⟨g3, 3, none⟩ = some (.int .i64 x1) := (blk_cell B_g3.out 3).trans rfl; have hf_g3_3 := blk_frozen B_g3.out 3; have hc_g3_4 : wf.cell? ⟨g3, 4, none⟩ = some (.int .i64 y1) := (blk_cell B_g3.out 4).trans rfl; have hf_g3_4 := blk_frozen B_g3.out 4; have hc_g3_5 : wf.cell? ⟨g3, 5, none⟩ = some (.int .i64 z1) := (blk_cell B_g3.out 5).trans rfl; have hf_g3_5 := blk_frozen B_g3.out 5))
          have HI2 := Aside0.mk (inv_put HI.out ax bg en (by omega) (by rw [← HBG.out]; omega) (by rw [← HEN.out]; omega) (by omega))
          go_roundg gn
          case measure => omega
          case rel => exact ⟨ax + 1, (pX x0 ax (bg)), (pY y0 ax (bg)), (pZ z0 ax (bg)), (pX x1 ax (en)), (pY y1 ax (en)), (pZ z1 ax (en)), (sdV x0 y0 z0 x1 y1 z1 ax kf (hi - en) (en) lost), v2, (sdL mk ax kf (hi - en) (en) l), (by first | rfl | (simp; done) | (simp [*]; done)), (by simp only [Hid]; omega), ⟨H⟩, HI2, (by have := HLN.out; have q2 := sdL_len mk ax kf (hi - en) en l; simp only [Hid]; omega), ⟨Kd.R_mono (st6_R HR.out (fun _ hk => hk.1) (.int .i64 (pX x0 ax (bg))) (.int .i64 (pY y0 ax (bg))) (.int .i64 (pZ z0 ax (bg))) (.int .i64 (pX x1 ax (en))) (.int .i64 (pY y1 ax (en))) (.int .i64 (pZ z1 ax (en)))) (fun _ hk => ⟨hk.1, hk.2.1, hk.2.2.1, hk.2.2.2.1, hk.2.2.2.2.1⟩)⟩, ⟨(st6_put B_g3.out (.int .i64 (pX x0 ax (bg))) (.int .i64 (pY y0 ax (bg))) (.int .i64 (pZ z0 ax (bg))) (.int .i64 (pX x1 ax (en))) (.int .i64 (pY y1 ax (en))) (.int .i64 (pZ z1 ax (en))))⟩, ⟨(st6_far B_g4.out NE_g4_g3 (.int .i64 (pX x0 ax (bg))) (.int .i64 (pY y0 ax (bg))) (.int .i64 (pZ z0 ax (bg))) (.int .i64 (pX x1 ax (en))) (.int .i64 (pY y1 ax (en))) (.int .i64 (pZ z1 ax (en))))⟩, ⟨(st6_far B_g5.out NE_g5_g3 (.int .i64 (pX x0 ax (bg))) (.int .i64 (pY y0 ax (bg))) (.int .i64 (pZ z0 ax (bg))) (.int .i64 (pX x1 ax (en))) (.int .i64 (pY y1 ax (en))) (.int .i64 (pZ z1 ax (en))))⟩, ⟨(st6_far B_g10.out NE_g10_g3 (.int .i64 (pX x0 ax (bg))) (.int .i64 (pY y0 ax (bg))) (.int .i64 (pZ z0 ax (bg))) (.int .i64 (pX x1 ax (en))) (.int .i64 (pY y1 ax (en))) (.int .i64 (pZ z1 ax (en))))⟩, ⟨(st6_far B_g11.out NE_g11_g3 (.int .i64 (pX x0 ax (bg))) (.int .i64 (pY y0 ax (bg))) (.int .i64 (pZ z0 ax (bg))) (.int .i64 (pX x1 ax (en))) (.int .i64 (pY y1 ax (en))) (.int .i64 (pZ z1 ax (en))))⟩, ⟨(st6_B HB.out GE_g3 (.int .i64 (pX x0 ax (bg))) (.int .i64 (pY y0 ax (bg))) (.int .i64 (pZ z0 ax (bg))) (.int .i64 (pX x1 ax (en))) (.int .i64 (pY y1 ax (en))) (.int .i64 (pZ z1 ax (en))))⟩⟩
        · rw [if_neg c4] at H
          go_wp2_with (first | ((with_reducible refine gate_dst (N := 12) rfl ?_); refine box_event ?hg (N := 12) ?hd (cs := #[.int .i64 0]) (t := 3) ?hr ?_; (case hd => rfl); (case hg => rfl); (case hr => first | (go_simp; done) | (go_simp; rfl)); intro g12 hg w12 hbox hb; have GE_g12 : w.heap.size ≤ g12 := (by rw [hg]; exact (below_size (blL HB.out))); have NE_g3_g12 : g3 ≠ g12 := (by rw [hg]; exact Nat.ne_of_lt (lL B_g3.out)); have NE_g12_g3 := NE_g3_g12.symm; have NE_g4_g12 : g4 ≠ g12 := (by rw [hg]; exact Nat.ne_of_lt (lL B_g4.out)); have NE_g12_g4 := NE_g4_g12.symm; have NE_g5_g12 : g5 ≠ g12 := (by rw [hg]; exact Nat.ne_of_lt (lL B_g5.out)); have NE_g12_g5 := NE_g5_g12.symm; have NE_g10_g12 : g10 ≠ g12 := (by rw [hg]; exact Nat.ne_of_lt (lL B_g10.out)); have NE_g12_g10 := NE_g10_g12.symm; have NE_g11_g12 : g11 ≠ g12 := (by rw [hg]; exact Nat.ne_of_lt (lL B_g11.out)); have NE_g12_g11 := NE_g11_g12.symm; have HRq := Aside0.mk (Kd.R_mono (Kd.R_bound HR.out) (fun j hj => (⟨hj.1.1, hj.1.2.1, hj.1.2.2.1, hj.1.2.2.2.1, hj.1.2.2.2.2, by rw [hg]; exact Nat.ne_of_lt hj.2.2.1⟩ : OKb g3 g4 g5 g10 g11 g12 j))); clear HR; have HR := HRq; clear HRq; have n0_ := Aside0.mk (bL B_g3.out hb); have n1_ := Aside0.mk (bL B_g4.out hb); have n2_ := Aside0.mk (bL B_g5.out hb); have n3_ := Aside0.mk (bL B_g10.out hb); have n4_ := Aside0.mk (bL B_g11.out hb); have nB_ := Aside0.mk (bbL HB.out hb); have nR_ := Aside0.mk (rbL HR.out hb); clear B_g3 B_g4 B_g5 B_g10 B_g11 HB HR; have B_g3 := n0_; have B_g4 := n1_; have B_g5 := n2_; have B_g10 := n3_; have B_g11 := n4_; have HB := nB_; have HR := nR_; clear n0_ n1_ n2_ n3_ n4_ nB_ nR_; have B_g12 := Aside0.mk hbox; clear hb hbox hg; have hc_g3_0 : w12.cell? ⟨g3, 0, none⟩ = some (.int .i64 x0) := (blk_cell B_g3.out 0).trans rfl; have hf_g3_0 := blk_frozen B_g3.out 0; have hc_g3_1 : w12.cell? ⟨g3, 1, none⟩ = some (.int .i64 y0) := (blk_cell B_g3.out 1).trans rfl; have hf_g3_1 := blk_frozen B_g3.out 1; have hc_g3_2 : w12.cell? ⟨g3, 2, none⟩ = some (.int .i64 z0) := (blk_cell B_g3.out 2).trans rfl; have hf_g3_2 := blk_frozen B_g3.out 2; have hc_g3_3 : w12.cell? ⟨g3, 3, none⟩ = some (.int .i64 x1) := (blk_cell B_g3.out 3).trans rfl; have hf_g3_3 := blk_frozen B_g3.out 3; have hc_g3_4 : w12.cell? ⟨g3, 4, none⟩ = some (.int .i64 y1) := (blk_cell B_g3.out 4).trans rfl; have hf_g3_4 := blk_frozen B_g3.out 4; have hc_g3_5 : w12.cell? ⟨g3, 5, none⟩ = some (.int .i64 z1) := (blk_cell B_g3.out 5).trans rfl; have hf_g3_5 := blk_frozen B_g3.out 5; have hc_g12_0 : w12.cell? ⟨g12, 0, none⟩ = some (.int .i64 0) := (blk_cell B_g12.out 0).trans rfl; have hf_g12_0 := blk_frozen B_g12.out 0) | ((with_reducible refine gate_callee (f := 42) rfl ?_); refine goesL_ (some 39) rfl rfl Try.func42 (by kernel_rfl) rfl #[.agg #[.int .i64 x0, .int .i64 y0, .int .i64 z0, .int .i64 x1, .int .i64 y1, .int .i64 z1], .int .i64 ax] rfl (by (try simp only [List.map_toArray, List.map_cons, List.map_nil]); first | done | rfl) ?_; (with_reducible refine (endD x0 y0 z0 x1 y1 z1 ax lo hi HLO.out HHI.out hA _).mono ?_); rintro e wa ⟨rfl, hb⟩; refine ⟨_, rfl, ?_⟩; have n0_ := Aside0.mk (blk_below (blk_far B_g3.out (p := ⟨g12, 0, none⟩) NE_g3_g12 (.int .i64 ax)) hb); have n1_ := Aside0.mk (blk_below (blk_far B_g4.out (p := ⟨g12, 0, none⟩) NE_g4_g12 (.int .i64 ax)) hb); have n2_ := Aside0.mk (blk_below (blk_far B_g5.out (p := ⟨g12, 0, none⟩) NE_g5_g12 (.int .i64 ax)) hb); have n3_ := Aside0.mk (blk_below (blk_far B_g10.out (p := ⟨g12, 0, none⟩) NE_g10_g12 (.int .i64 ax)) hb); have n4_ := Aside0.mk (blk_below (blk_far B_g11.out (p := ⟨g12, 0, none⟩) NE_g11_g12 (.int .i64 ax)) hb); have n5_ := Aside0.mk (blk_below (blk_put (cs' := #[.int .i64 ax]) B_g12.out 0 (.int .i64 ax) rfl) hb); have nB_ := Aside0.mk (below_step (below_set HB.out GE_g12) hb); have nR_ := Aside0.mk (Kd.R_below (Kd.R_far HR.out (p := ⟨g12, 0, none⟩) (fun _ hk => hk.2.2.2.2.2) (.int .i64 ax)) hb); clear B_g3 B_g4 B_g5 B_g10 B_g11 B_g12 HB HR; have B_g3 := n0_; have B_g4 := n1_; have B_g5 := n2_; have B_g10 := n3_; have B_g11 := n4_; have B_g12 := n5_; have HB := nB_; have HR := nR_; clear nB_ nR_ n0_ n1_ n2_ n3_ n4_ n5_; clear hb; have hc_g4_0 : wa.cell? ⟨g4, 0, none⟩ = some (.int .i64 p0) := (blk_cell B_g4.out 0).trans rfl; have hf_g4_0 := blk_frozen B_g4.out 0; have hc_g4_1 : wa.cell? ⟨g4, 1, none⟩ = some (.int .i64 q0) := (blk_cell B_g4.out 1).trans rfl; have hf_g4_1 := blk_frozen B_g4.out 1; have hc_g4_2 : wa.cell? ⟨g4, 2, none⟩ = some (.int .i64 r0) := (blk_cell B_g4.out 2).trans rfl; have hf_g4_2 := blk_frozen B_g4.out 2; have hc_g4_3 : wa.cell? ⟨g4, 3, none⟩ = some (.int .i64 p1) := (blk_cell B_g4.out 3).trans rfl; have hf_g4_3 := blk_frozen B_g4.out 3; have hc_g4_4 : wa.cell? ⟨g4, 4, none⟩ = some (.int .i64 q1) := (blk_cell B_g4.out 4).trans rfl; have hf_g4_4 := blk_frozen B_g4.out 4; have hc_g4_5 : wa.cell? ⟨g4, 5, none⟩ = some (.int .i64 r1) := (blk_cell B_g4.out 5).trans rfl; have hf_g4_5 := blk_frozen B_g4.out 5; have hc_g12_0 : wa.cell? ⟨g12, 0, none⟩ = some (.int .i64 ax) := (blk_cell B_g12.out 0).trans rfl; have hf_g12_0 := blk_frozen B_g12.out 0) | ((with_reducible refine gate_callee (f := 42) rfl ?_); refine goesL_ (some 45) rfl rfl Try.func42 (by kernel_rfl) rfl #[.agg #[.int .i64 p0, .int .i64 q0, .int .i64 r0, .int .i64 p1, .int .i64 q1, .int .i64 r1], .int .i64 ax] rfl (by (try simp only [List.map_toArray, List.map_cons, List.map_nil]); first | done | rfl) ?_; (with_reducible refine (endD p0 q0 r0 p1 q1 r1 ax bg en HBG.out HEN.out hA _).mono ?_); rintro e wb ⟨rfl, hb⟩; refine ⟨_, rfl, ?_⟩; have n0_ := Aside0.mk (bL B_g3.out hb); have n1_ := Aside0.mk (bL B_g4.out hb); have n2_ := Aside0.mk (bL B_g5.out hb); have n3_ := Aside0.mk (bL B_g10.out hb); have n4_ := Aside0.mk (bL B_g11.out hb); have n5_ := Aside0.mk (bL B_g12.out hb); have nB_ := Aside0.mk (bbL HB.out hb); have nR_ := Aside0.mk (rbL HR.out hb); clear B_g3 B_g4 B_g5 B_g10 B_g11 B_g12 HB HR; have B_g3 := n0_; have B_g4 := n1_; have B_g5 := n2_; have B_g10 := n3_; have B_g11 := n4_; have B_g12 := n5_; have HB := nB_; have HR := nR_; clear n0_ n1_ n2_ n3_ n4_ n5_ nB_ nR_; clear hb; have hc_g5_0 : wb.cell? ⟨g5, 0, none⟩ = some (.int .i64 kf) := (blk_cell B_g5.out 0).trans rfl; have hf_g5_0 := blk_frozen B_g5.out 0))
          go_roundg gn
          case measure => omega
          case rel => exact ⟨ax + 1, x0, y0, z0, x1, y1, z1, lost, v, l, (by first | rfl | (simp; done) | (simp [*]; done)), (by simp only [Hid]; omega), ⟨H⟩, HI, (by have := HLN.out; simp only [Hid]; omega), ⟨Kd.R_mono HR.out (fun _ hk => ⟨hk.1, hk.2.1, hk.2.2.1, hk.2.2.2.1, hk.2.2.2.2.1⟩)⟩, ⟨B_g3.out⟩, ⟨B_g4.out⟩, ⟨B_g5.out⟩, ⟨B_g10.out⟩, ⟨B_g11.out⟩, ⟨HB.out⟩⟩
end Go.Proofs.Ytdfcphfoccgopaa.KT
