/- The vector seat: geometry of segments. -/
import Derived.Test.YtoffcodhcbgbdaaV3
namespace Go.Proofs.Ytoffcodhcbgbdaa
open Go.Sx
set_option linter.unusedVariables false
set_option linter.unusedSimpArgs false
set_option maxRecDepth 100000

theorem bef_x {px py qx qy : Int} (h : px = qx → py = qy) : bef0 px py qx qy = decide (px < qx) := by
  unfold bef0
  by_cases h1 : px < qx
  · rw [decide_eq_true h1, decide_eq_true (Or.inl h1)]
  · rw [decide_eq_false h1, decide_eq_false (by intro h2; rcases h2 with h2 | ⟨h2, h3⟩; exact h1 h2; have := h h2; omega)]
theorem bef_y {px py qx qy : Int} (h : px = qx) : bef0 px py qx qy = decide (py < qy) := by
  unfold bef0
  by_cases h1 : py < qy
  · rw [decide_eq_true h1, decide_eq_true (Or.inr ⟨h, h1⟩)]
  · rw [decide_eq_false h1, decide_eq_false (by omega)]
theorem eq_x {px py qx qy : Int} (h : px = qx → py = qy) : (px = qx ∧ py = qy) = (px = qx) := by
  apply propext
  exact ⟨fun h1 => h1.1, fun h1 => ⟨h1, h h1⟩⟩
theorem eq_y {px py qx qy : Int} (h : px = qx) : (px = qx ∧ py = qy) = (py = qy) := by
  apply propext
  exact ⟨fun h1 => h1.2, fun h1 => ⟨h, h1⟩⟩
theorem fin_len (lo hi : Int) : (if decide (lo < hi) = true then (2 : Int) else if lo = hi then 1 else 0) = mxI 0 (mnI 2 (hi - lo + 1)) := by
  simp only [decide_eq_true_eq]
  unfold mxI mnI
  repeat' split
  all_goals omega
/-- Spans by one coordinate. -/
def spans (a b c d : Int) : Int := mxI 0 (mnI 2 (mnI (mxI a b) (mxI c d) - mxI (mnI a b) (mnI c d) + 1))
theorem mxI_def (a b : Int) : mxI a b = if a < b then b else a := rfl
theorem mnI_def (a b : Int) : mnI a b = if b < a then b else a := rfl
theorem coll_gen {key : Int → Int → Int} {lx ly hx hy mx my nx ny : Int}
    (b1 : bef0 lx ly mx my = decide (key lx ly < key mx my)) (b2 : bef0 nx ny hx hy = decide (key nx ny < key hx hy))
    (c1 : bef0 lx ly hx hy = decide (key lx ly < key hx hy)) (c2 : bef0 lx ly nx ny = decide (key lx ly < key nx ny)) (c3 : bef0 mx my hx hy = decide (key mx my < key hx hy)) (c4 : bef0 mx my nx ny = decide (key mx my < key nx ny))
    (d1 : (lx = hx ∧ ly = hy) = (key lx ly = key hx hy)) (d2 : (lx = nx ∧ ly = ny) = (key lx ly = key nx ny)) (d3 : (mx = hx ∧ my = hy) = (key mx my = key hx hy)) (d4 : (mx = nx ∧ my = ny) = (key mx my = key nx ny)) :
    coll lx ly hx hy mx my nx ny = mxI 0 (mnI 2 (mnI (key hx hy) (key nx ny) - mxI (key lx ly) (key mx my) + 1)) := by
  unfold coll
  rw [mxI_def (key lx ly), mnI_def (key hx hy)]
  by_cases h1 : key lx ly < key mx my
  · have e1 : bef0 lx ly mx my = true := b1.trans (decide_eq_true h1)
    rw [if_pos h1]
    by_cases h2 : key nx ny < key hx hy
    · have e2 : bef0 nx ny hx hy = true := b2.trans (decide_eq_true h2)
      rw [if_pos h2]
      simp only [e1, e2, if_true]
      rw [c4]
      simp only [d4]
      exact fin_len _ _
    · have e2 : bef0 nx ny hx hy = false := b2.trans (decide_eq_false h2)
      rw [if_neg h2]
      simp only [e1, e2, if_true, Bool.false_eq_true, if_false]
      rw [c3]
      simp only [d3]
      exact fin_len _ _
  · have e1 : bef0 lx ly mx my = false := b1.trans (decide_eq_false h1)
    rw [if_neg h1]
    by_cases h2 : key nx ny < key hx hy
    · have e2 : bef0 nx ny hx hy = true := b2.trans (decide_eq_true h2)
      rw [if_pos h2]
      simp only [e1, e2, if_true, Bool.false_eq_true, if_false]
      rw [c2]
      simp only [d2]
      exact fin_len _ _
    · have e2 : bef0 nx ny hx hy = false := b2.trans (decide_eq_false h2)
      rw [if_neg h2]
      simp only [e1, e2, Bool.false_eq_true, if_false]
      rw [c1]
      simp only [d1]
      exact fin_len _ _
/-- Both ends in their order, by a coordinate. -/
theorem srt_key {key : Int → Int → Int} {ax ay bx by' : Int} (h : bef0 bx by' ax ay = decide (key bx by' < key ax ay)) :
    (key bx by' < key ax ay ∧ srt0 ax ay bx by' = bx ∧ srt1 ax ay bx by' = by' ∧ srt2 ax ay bx by' = ax ∧ srt3 ax ay bx by' = ay ∧ mnI (key ax ay) (key bx by') = key bx by' ∧ mxI (key ax ay) (key bx by') = key ax ay) ∨
    (¬ key bx by' < key ax ay ∧ srt0 ax ay bx by' = ax ∧ srt1 ax ay bx by' = ay ∧ srt2 ax ay bx by' = bx ∧ srt3 ax ay bx by' = by' ∧ mnI (key ax ay) (key bx by') = key ax ay ∧ mxI (key ax ay) (key bx by') = key bx by') := by
  have h' : decide (bx < ax ∨ bx = ax ∧ by' < ay) = decide (key bx by' < key ax ay) := h
  unfold srt0 srt1 srt2 srt3
  rw [h', mnI_def, mxI_def]
  by_cases s : key bx by' < key ax ay
  · left
    simp only [decide_eq_true s, if_true, if_pos s]
    rw [if_neg (by omega)]
    simp [s]
  · right
    simp only [decide_eq_false s, Bool.false_eq_true, if_false, if_neg s, true_and]
    refine ⟨s, ?_⟩
    split <;> omega
theorem coll_x {ax ay bx by' cx cy dx dy : Int} (hab : ax = bx → ay = by') (hac : ax = cx → ay = cy) (had : ax = dx → ay = dy) (hbc : bx = cx → by' = cy) (hbd : bx = dx → by' = dy) (hcd : cx = dx → cy = dy) :
    coll (srt0 ax ay bx by') (srt1 ax ay bx by') (srt2 ax ay bx by') (srt3 ax ay bx by') (srt0 cx cy dx dy) (srt1 cx cy dx dy) (srt2 cx cy dx dy) (srt3 cx cy dx dy) = spans ax bx cx dx := by
  have Bab : bef0 ax ay bx by' = decide (ax < bx) := bef_x hab
  have Eab : (ax = bx ∧ ay = by') = (ax = bx) := eq_x hab
  have Bac : bef0 ax ay cx cy = decide (ax < cx) := bef_x hac
  have Eac : (ax = cx ∧ ay = cy) = (ax = cx) := eq_x hac
  have Bad : bef0 ax ay dx dy = decide (ax < dx) := bef_x had
  have Ead : (ax = dx ∧ ay = dy) = (ax = dx) := eq_x had
  have Bba : bef0 bx by' ax ay = decide (bx < ax) := bef_x (fun e => (hab e.symm).symm)
  have Eba : (bx = ax ∧ by' = ay) = (bx = ax) := eq_x (fun e => (hab e.symm).symm)
  have Bbc : bef0 bx by' cx cy = decide (bx < cx) := bef_x hbc
  have Ebc : (bx = cx ∧ by' = cy) = (bx = cx) := eq_x hbc
  have Bbd : bef0 bx by' dx dy = decide (bx < dx) := bef_x hbd
  have Ebd : (bx = dx ∧ by' = dy) = (bx = dx) := eq_x hbd
  have Bca : bef0 cx cy ax ay = decide (cx < ax) := bef_x (fun e => (hac e.symm).symm)
  have Eca : (cx = ax ∧ cy = ay) = (cx = ax) := eq_x (fun e => (hac e.symm).symm)
  have Bcb : bef0 cx cy bx by' = decide (cx < bx) := bef_x (fun e => (hbc e.symm).symm)
  have Ecb : (cx = bx ∧ cy = by') = (cx = bx) := eq_x (fun e => (hbc e.symm).symm)
  have Bcd : bef0 cx cy dx dy = decide (cx < dx) := bef_x hcd
  have Ecd : (cx = dx ∧ cy = dy) = (cx = dx) := eq_x hcd
  have Bda : bef0 dx dy ax ay = decide (dx < ax) := bef_x (fun e => (had e.symm).symm)
  have Eda : (dx = ax ∧ dy = ay) = (dx = ax) := eq_x (fun e => (had e.symm).symm)
  have Bdb : bef0 dx dy bx by' = decide (dx < bx) := bef_x (fun e => (hbd e.symm).symm)
  have Edb : (dx = bx ∧ dy = by') = (dx = bx) := eq_x (fun e => (hbd e.symm).symm)
  have Bdc : bef0 dx dy cx cy = decide (dx < cx) := bef_x (fun e => (hcd e.symm).symm)
  have Edc : (dx = cx ∧ dy = cy) = (dx = cx) := eq_x (fun e => (hcd e.symm).symm)
  unfold spans
  rcases srt_key (key := (fun x _ => x)) Bba with ⟨_, a0, a1, a2, a3, a4, a5⟩ | ⟨_, a0, a1, a2, a3, a4, a5⟩ <;> rcases srt_key (key := (fun x _ => x)) Bdc with ⟨_, c0, c1, c2, c3, c4, c5⟩ | ⟨_, c0, c1, c2, c3, c4, c5⟩
  · rw [a0, a1, a2, a3, c0, c1, c2, c3]
    have r := coll_gen (key := (fun x _ => x)) Bbd Bca Bba Bbc Bda Bdc Eba Ebc Eda Edc
    rw [a4, a5, c4, c5]
    exact r
  · rw [a0, a1, a2, a3, c0, c1, c2, c3]
    have r := coll_gen (key := (fun x _ => x)) Bbc Bda Bba Bbd Bca Bcd Eba Ebd Eca Ecd
    rw [a4, a5, c4, c5]
    exact r
  · rw [a0, a1, a2, a3, c0, c1, c2, c3]
    have r := coll_gen (key := (fun x _ => x)) Bad Bcb Bab Bac Bdb Bdc Eab Eac Edb Edc
    rw [a4, a5, c4, c5]
    exact r
  · rw [a0, a1, a2, a3, c0, c1, c2, c3]
    have r := coll_gen (key := (fun x _ => x)) Bac Bdb Bab Bad Bcb Bcd Eab Ead Ecb Ecd
    rw [a4, a5, c4, c5]
    exact r
theorem coll_y {ax ay bx by' cx cy dx dy : Int} (e1 : bx = ax) (e2 : cx = ax) (e3 : dx = ax) :
    coll (srt0 ax ay bx by') (srt1 ax ay bx by') (srt2 ax ay bx by') (srt3 ax ay bx by') (srt0 cx cy dx dy) (srt1 cx cy dx dy) (srt2 cx cy dx dy) (srt3 cx cy dx dy) = spans ay by' cy dy := by
  have Bab : bef0 ax ay bx by' = decide (ay < by') := bef_y (by omega)
  have Eab : (ax = bx ∧ ay = by') = (ay = by') := eq_y (by omega)
  have Bac : bef0 ax ay cx cy = decide (ay < cy) := bef_y (by omega)
  have Eac : (ax = cx ∧ ay = cy) = (ay = cy) := eq_y (by omega)
  have Bad : bef0 ax ay dx dy = decide (ay < dy) := bef_y (by omega)
  have Ead : (ax = dx ∧ ay = dy) = (ay = dy) := eq_y (by omega)
  have Bba : bef0 bx by' ax ay = decide (by' < ay) := bef_y (by omega)
  have Eba : (bx = ax ∧ by' = ay) = (by' = ay) := eq_y (by omega)
  have Bbc : bef0 bx by' cx cy = decide (by' < cy) := bef_y (by omega)
  have Ebc : (bx = cx ∧ by' = cy) = (by' = cy) := eq_y (by omega)
  have Bbd : bef0 bx by' dx dy = decide (by' < dy) := bef_y (by omega)
  have Ebd : (bx = dx ∧ by' = dy) = (by' = dy) := eq_y (by omega)
  have Bca : bef0 cx cy ax ay = decide (cy < ay) := bef_y (by omega)
  have Eca : (cx = ax ∧ cy = ay) = (cy = ay) := eq_y (by omega)
  have Bcb : bef0 cx cy bx by' = decide (cy < by') := bef_y (by omega)
  have Ecb : (cx = bx ∧ cy = by') = (cy = by') := eq_y (by omega)
  have Bcd : bef0 cx cy dx dy = decide (cy < dy) := bef_y (by omega)
  have Ecd : (cx = dx ∧ cy = dy) = (cy = dy) := eq_y (by omega)
  have Bda : bef0 dx dy ax ay = decide (dy < ay) := bef_y (by omega)
  have Eda : (dx = ax ∧ dy = ay) = (dy = ay) := eq_y (by omega)
  have Bdb : bef0 dx dy bx by' = decide (dy < by') := bef_y (by omega)
  have Edb : (dx = bx ∧ dy = by') = (dy = by') := eq_y (by omega)
  have Bdc : bef0 dx dy cx cy = decide (dy < cy) := bef_y (by omega)
  have Edc : (dx = cx ∧ dy = cy) = (dy = cy) := eq_y (by omega)
  unfold spans
  rcases srt_key (key := (fun _ y => y)) Bba with ⟨_, a0, a1, a2, a3, a4, a5⟩ | ⟨_, a0, a1, a2, a3, a4, a5⟩ <;> rcases srt_key (key := (fun _ y => y)) Bdc with ⟨_, c0, c1, c2, c3, c4, c5⟩ | ⟨_, c0, c1, c2, c3, c4, c5⟩
  · rw [a0, a1, a2, a3, c0, c1, c2, c3]
    have r := coll_gen (key := (fun _ y => y)) Bbd Bca Bba Bbc Bda Bdc Eba Ebc Eda Edc
    rw [a4, a5, c4, c5]
    exact r
  · rw [a0, a1, a2, a3, c0, c1, c2, c3]
    have r := coll_gen (key := (fun _ y => y)) Bbc Bda Bba Bbd Bca Bcd Eba Ebd Eca Ecd
    rw [a4, a5, c4, c5]
    exact r
  · rw [a0, a1, a2, a3, c0, c1, c2, c3]
    have r := coll_gen (key := (fun _ y => y)) Bad Bcb Bab Bac Bdb Bdc Eab Eac Edb Edc
    rw [a4, a5, c4, c5]
    exact r
  · rw [a0, a1, a2, a3, c0, c1, c2, c3]
    have r := coll_gen (key := (fun _ y => y)) Bac Bdb Bab Bad Bcb Bcd Eab Ead Ecb Ecd
    rw [a4, a5, c4, c5]
    exact r

def cr (ax ay bx by' cx cy : Int) : Int := (bx - ax) * (cy - ay) - (by' - ay) * (cx - ax)
theorem tur_eq {ax ay bx by' cx cy : Int} (h1 : in2 ax ay = true) (h2 : in2 bx by' = true) (h3 : in2 cx cy = true) : tur0 ax ay bx by' cx cy = sgn (cr ax ay bx by' cx cy) := by
  simp only [in2, Bool.and_eq_true, inC_iff] at h1 h2 h3
  unfold tur0 cr
  rw [ar_sub (a := bx) (by omega) (by omega), ar_sub (a := cy) (by omega) (by omega), ar_sub (a := by') (by omega) (by omega), ar_sub (a := cx) (by omega) (by omega)]
  have m1 := mul_bd (a := bx - ax) (b := cy - ay) (A := 2000000) (B := 2000000) (by omega) (by omega) (by omega) (by omega)
  have m2 := mul_bd (a := by' - ay) (b := cx - ax) (A := 2000000) (B := 2000000) (by omega) (by omega) (by omega) (by omega)
  rw [ar_mul (by omega) (by omega), ar_mul (by omega) (by omega), ar_sub (by omega) (by omega)]
theorem sgn_zero (n : Int) : (sgn n = 0) = (n = 0) := by
  unfold sgn
  apply propext
  constructor
  · intro h; split at h
    · omega
    · split at h <;> omega
  · intro h; subst h; rfl
theorem sgn_neg (n : Int) : sgn (-n) = -sgn n := by
  unfold sgn
  split <;> split <;> (try split) <;> (try split) <;> omega
theorem cancel {k u v : Int} (hk : k ≠ 0) (h : k * u = k * v) : u = v := Int.eq_of_mul_eq_mul_left hk h
/-- Two points on one line that is not vertical: the same first coordinate is the same point. -/
theorem same_y {k m px py qx qy ox oy : Int} (hk : k ≠ 0) (hp : k * (py - oy) = m * (px - ox)) (hq : k * (qy - oy) = m * (qx - ox)) (h : px = qx) : py = qy := by
  subst h
  have : py - oy = qy - oy := cancel hk (hp.trans hq.symm)
  omega
end Go.Proofs.Ytoffcodhcbgbdaa
