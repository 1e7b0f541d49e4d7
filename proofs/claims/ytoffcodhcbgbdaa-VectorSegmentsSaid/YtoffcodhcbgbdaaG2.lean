/- The vector seat: Meet against the reference, and its symmetries. -/
import Derived.Test.YtoffcodhcbgbdaaG1
namespace Go.Proofs.Ytoffcodhcbgbdaa
open Go.Sx
set_option linter.unusedVariables false
set_option linter.unusedSimpArgs false
set_option maxRecDepth 100000

theorem ar_sub_self (a : Int) : arI .sub .i64 a a = 0 := by
  show IntKind.i64.wrap (a - a) = 0
  rw [Int.sub_self]
  rfl
theorem mn_self (a : Int) : mnI a a = a := by unfold mnI; split <;> rfl
theorem mx_self (a : Int) : mxI a a = a := by unfold mxI; split <;> rfl
theorem mn_comm (a b : Int) : mnI a b = mnI b a := by unfold mnI; split <;> split <;> omega
theorem mx_comm (a b : Int) : mxI a b = mxI b a := by unfold mxI; split <;> split <;> omega
theorem ons_deg (ax ay cx cy : Int) : ons0 ax ay ax ay cx cy = decide (cx = ax ∧ cy = ay) := by
  unfold ons0
  rw [mn_self, mx_self, mn_self, mx_self]
  by_cases h : cx = ax ∧ cy = ay
  · obtain ⟨rfl, rfl⟩ := h
    have : tur0 cx cy cx cy cx cy = 0 := by
      unfold tur0
      rw [ar_sub_self, ar_sub_self]
      kernel_rfl
    rw [this]
    simp
  · rw [decide_eq_false h]
    by_cases h1 : ax ≤ cx
    · by_cases h2 : cx ≤ ax
      · by_cases h3 : ay ≤ cy
        · have h4 : ¬ cy ≤ ay := by omega
          simp [h4]
        · simp [h3]
      · simp [h2]
    · simp [h1]
theorem cr_swap (ax ay bx by' cx cy : Int) : cr bx by' ax ay cx cy = -cr ax ay bx by' cx cy := by
  unfold cr
  simp only [Int.sub_mul, Int.mul_sub, Int.mul_comm]
  omega
theorem cr_turn (ax ay bx by' cx cy : Int) : cr ax ay cx cy bx by' = -cr ax ay bx by' cx cy := by
  unfold cr
  rw [Int.mul_comm (cx - ax), Int.mul_comm (cy - ay)]
  omega
theorem cr_rot (ax ay bx by' cx cy : Int) : cr bx by' cx cy ax ay = cr ax ay bx by' cx cy := by
  unfold cr
  simp only [Int.sub_mul, Int.mul_sub, Int.mul_comm]
  omega
theorem three {k m w z u v : Int} (hkm : k ≠ 0 ∨ m ≠ 0) (h1 : k * z = m * w) (h2 : k * v = m * u) : w * v - z * u = 0 := by
  have : w * v = z * u := by
    rcases hkm with hk | hm
    · refine cancel hk ?_
      rw [Int.mul_left_comm, h2, ← Int.mul_assoc k z u, h1, Int.mul_left_comm w m u, Int.mul_assoc]
    · refine cancel hm ?_
      rw [← Int.mul_assoc m w v, ← h1, Int.mul_left_comm m z u, ← h2, Int.mul_left_comm z k v, Int.mul_assoc]
  omega
theorem on_diff {k m ox oy px py qx qy : Int} (hp : k * (py - oy) = m * (px - ox)) (hq : k * (qy - oy) = m * (qx - ox)) : k * (qy - py) = m * (qx - px) := by
  have e : k * ((qy - oy) - (py - oy)) = m * ((qx - ox) - (px - ox)) := by
    rw [Int.mul_sub k (qy - oy) (py - oy), Int.mul_sub m (qx - ox) (px - ox), hq, hp]
  have e2 : (qy - oy) - (py - oy) = qy - py := by omega
  have e3 : (qx - ox) - (px - ox) = qx - px := by omega
  rw [e2, e3] at e
  exact e
/-- The line of two different points: each point's equation. -/
theorem line_of {ax ay bx by' cx cy : Int} (h : cr ax ay bx by' cx cy = 0) : (bx - ax) * (cy - ay) = (by' - ay) * (cx - ax) := by
  unfold cr at h
  omega
theorem col_imp {ax ay bx by' cx cy dx dy : Int} (n : ¬ (ax = bx ∧ ay = by')) (h1 : cr ax ay bx by' cx cy = 0) (h2 : cr ax ay bx by' dx dy = 0) : cr cx cy dx dy ax ay = 0 ∧ cr cx cy dx dy bx by' = 0 := by
  have hkm : bx - ax ≠ 0 ∨ by' - ay ≠ 0 := by omega
  have pc := line_of h1
  have pd := line_of h2
  have pa : (bx - ax) * (ay - ay) = (by' - ay) * (ax - ax) := by rw [Int.sub_self, Int.sub_self, Int.mul_zero, Int.mul_zero]
  have pb : (bx - ax) * (by' - ay) = (by' - ay) * (bx - ax) := Int.mul_comm _ _
  exact ⟨three hkm (on_diff pc pd) (on_diff pc pa), three hkm (on_diff pc pd) (on_diff pc pb)⟩
structure Lined (ax ay bx by' cx cy dx dy : Int) : Prop where
  hab : ax = bx → ay = by'
  hac : ax = cx → ay = cy
  had : ax = dx → ay = dy
  hbc : bx = cx → by' = cy
  hbd : bx = dx → by' = dy
  hcd : cx = dx → cy = dy
theorem lined {ax ay bx by' cx cy dx dy : Int} (n : ax ≠ bx) (h1 : cr ax ay bx by' cx cy = 0) (h2 : cr ax ay bx by' dx dy = 0) : Lined ax ay bx by' cx cy dx dy := by
  have hk : bx - ax ≠ 0 := by omega
  have pc := line_of h1
  have pd := line_of h2
  have pa : (bx - ax) * (ay - ay) = (by' - ay) * (ax - ax) := by rw [Int.sub_self, Int.sub_self, Int.mul_zero, Int.mul_zero]
  have pb : (bx - ax) * (by' - ay) = (by' - ay) * (bx - ax) := Int.mul_comm _ _
  exact ⟨same_y hk pa pb, same_y hk pa pc, same_y hk pa pd, same_y hk pb pc, same_y hk pb pd, same_y hk pc pd⟩
theorem upright {ax ay bx by' cx cy : Int} (e : ax = bx) (n : ay ≠ by') (h : cr ax ay bx by' cx cy = 0) : cx = ax := by
  have p := line_of h
  rw [show bx - ax = 0 by omega, Int.zero_mul] at p
  have hm : by' - ay ≠ 0 := by omega
  have : (0 : Int) = cx - ax := cancel hm (by rw [Int.mul_zero]; exact p)
  omega
theorem cmn_spans (a b c d : Int) : cmn0 a b c d = spans a b c d := rfl
/-- Both ways to count the common points of segments on one line. -/
theorem col_count {ax ay bx by' cx cy dx dy : Int} (n : ¬ (ax = bx ∧ ay = by')) (h1 : cr ax ay bx by' cx cy = 0) (h2 : cr ax ay bx by' dx dy = 0) :
    (if ax = bx then cmn0 ay by' cy dy else cmn0 ax bx cx dx) = coll (srt0 ax ay bx by') (srt1 ax ay bx by') (srt2 ax ay bx by') (srt3 ax ay bx by') (srt0 cx cy dx dy) (srt1 cx cy dx dy) (srt2 cx cy dx dy) (srt3 cx cy dx dy) := by
  by_cases e : ax = bx
  · have ny : ay ≠ by' := fun h => n ⟨e, h⟩
    rw [if_pos e, coll_y e.symm (upright e ny h1) (upright e ny h2)]
    rfl
  · obtain ⟨a1, a2, a3, a4, a5, a6⟩ := lined e h1 h2
    rw [if_neg e, coll_x a1 a2 a3 a4 a5 a6]
    rfl
theorem one_if (b : Bool) : one0 b = if b = true then 1 else 0 := rfl
theorem meets_eq {ax ay bx by' cx cy dx dy : Int} (ha : in2 ax ay = true) (hb : in2 bx by' = true) (hc : in2 cx cy = true) (hd : in2 dx dy = true) :
    meetS ax ay bx by' cx cy dx dy = rmeetS ax ay bx by' cx cy dx dy := by
  unfold meetS rmeetS
  by_cases n1 : ax = bx ∧ ay = by'
  · rw [if_pos n1, if_pos (Or.inl n1), one_if]
    by_cases n2 : cx = dx ∧ cy = dy
    · obtain ⟨rfl, rfl⟩ := n1
      obtain ⟨rfl, rfl⟩ := n2
      rw [ons_deg, ons_deg]
      by_cases e : ax = cx ∧ ay = cy
      · obtain ⟨rfl, rfl⟩ := e
        simp
      · have e' : ¬ (cx = ax ∧ cy = ay) := fun h => e ⟨h.1.symm, h.2.symm⟩
        simp [e, e']
    · simp only [n1, n2, true_and, false_and, or_false, and_self]
  · rw [if_neg n1]
    by_cases n2 : cx = dx ∧ cy = dy
    · rw [if_pos n2, if_pos (Or.inr n2), one_if]
      simp only [n1, n2, true_and, false_and, false_or, and_self]
    · rw [if_neg n2, if_neg (show ¬ ((ax = bx ∧ ay = by') ∨ (cx = dx ∧ cy = dy)) from fun h => h.elim n1 n2)]
      by_cases c : tur0 ax ay bx by' cx cy = 0 ∧ tur0 ax ay bx by' dx dy = 0
      · rw [if_pos c, if_pos c]
        rw [tur_eq ha hb hc, tur_eq ha hb hd, sgn_zero, sgn_zero] at c
        exact col_count n1 c.1 c.2
      · rw [if_neg c, if_neg c]

/-! ### Symmetries -/
theorem tur_swap {ax ay bx by' cx cy : Int} (ha : in2 ax ay = true) (hb : in2 bx by' = true) (hc : in2 cx cy = true) : tur0 bx by' ax ay cx cy = -tur0 ax ay bx by' cx cy := by
  rw [tur_eq hb ha hc, tur_eq ha hb hc, cr_swap, sgn_neg]
theorem ons_swap {ax ay bx by' cx cy : Int} (ha : in2 ax ay = true) (hb : in2 bx by' = true) (hc : in2 cx cy = true) : ons0 bx by' ax ay cx cy = ons0 ax ay bx by' cx cy := by
  unfold ons0
  rw [tur_swap ha hb hc, mn_comm bx ax, mx_comm bx ax, mn_comm by' ay, mx_comm by' ay]
  have : (-tur0 ax ay bx by' cx cy = 0) = (tur0 ax ay bx by' cx cy = 0) := by apply propext; omega
  simp only [this]
theorem sgn_bd (n : Int) : -1 ≤ sgn n ∧ sgn n ≤ 1 := by
  unfold sgn
  split
  · omega
  · split <;> omega
theorem sgn_mul (m n : Int) : arI .mul .i64 (sgn m) (sgn n) = sgn m * sgn n := by
  have h1 := sgn_bd m
  have h2 := sgn_bd n
  have := mul_bd (a := sgn m) (b := sgn n) (A := 1) (B := 1) h1.1 h1.2 h2.1 h2.2
  exact ar_mul (by omega) (by omega)
theorem spans_sw (a b c d : Int) : spans b a d c = spans a b c d := by
  unfold spans
  rw [mx_comm b a, mn_comm b a, mx_comm d c, mn_comm d c]
theorem spans_ex (a b c d : Int) : spans d c a b = spans a b c d := by
  unfold spans
  rw [mx_comm d c, mn_comm d c, mn_comm (mxI c d), mx_comm (mnI c d)]
/-- Meet by exact turns. -/
def meetE (ax ay bx by' cx cy dx dy : Int) : Int :=
  if ax = bx ∧ ay = by' then one0 (ons0 cx cy dx dy ax ay) else
  if cx = dx ∧ cy = dy then one0 (ons0 ax ay bx by' cx cy) else
  if cr ax ay bx by' cx cy = 0 ∧ cr ax ay bx by' dx dy = 0 then
    (if ax = bx then spans ay by' cy dy else spans ax bx cx dx)
  else if sgn (cr ax ay bx by' cx cy) * sgn (cr ax ay bx by' dx dy) ≤ 0 ∧ sgn (cr cx cy dx dy ax ay) * sgn (cr cx cy dx dy bx by') ≤ 0 then 1 else 0
theorem meet_exact {ax ay bx by' cx cy dx dy : Int} (ha : in2 ax ay = true) (hb : in2 bx by' = true) (hc : in2 cx cy = true) (hd : in2 dx dy = true) :
    meetS ax ay bx by' cx cy dx dy = meetE ax ay bx by' cx cy dx dy := by
  unfold meetS meetE
  rw [tur_eq ha hb hc, tur_eq ha hb hd, tur_eq hc hd ha, tur_eq hc hd hb, sgn_mul, sgn_mul]
  simp only [sgn_zero, cmn_spans]
theorem meet_sw {ax ay bx by' cx cy dx dy : Int} (ha : in2 ax ay = true) (hb : in2 bx by' = true) (hc : in2 cx cy = true) (hd : in2 dx dy = true) :
    meetE bx by' ax ay dx dy cx cy = meetE ax ay bx by' cx cy dx dy := by
  unfold meetE
  by_cases n1 : ax = bx ∧ ay = by'
  · obtain ⟨rfl, rfl⟩ := n1
    rw [if_pos ⟨rfl, rfl⟩, if_pos ⟨rfl, rfl⟩, ons_swap hc hd ha]
  · rw [if_neg n1, if_neg (show ¬ (bx = ax ∧ by' = ay) from fun h => n1 ⟨h.1.symm, h.2.symm⟩)]
    by_cases n2 : cx = dx ∧ cy = dy
    · obtain ⟨rfl, rfl⟩ := n2
      rw [if_pos ⟨rfl, rfl⟩, if_pos ⟨rfl, rfl⟩, ons_swap ha hb hc]
    · rw [if_neg n2, if_neg (show ¬ (dx = cx ∧ dy = cy) from fun h => n2 ⟨h.1.symm, h.2.symm⟩)]
      rw [cr_swap ax ay bx by' dx dy, cr_swap ax ay bx by' cx cy, cr_swap cx cy dx dy bx by', cr_swap cx cy dx dy ax ay, sgn_neg, sgn_neg, sgn_neg, sgn_neg,
        Int.neg_mul_neg, Int.neg_mul_neg, Int.mul_comm (sgn (cr ax ay bx by' dx dy)), Int.mul_comm (sgn (cr cx cy dx dy bx by')), spans_sw ay by' cy dy, spans_sw ax bx cx dx]
      have c : (-cr ax ay bx by' dx dy = 0 ∧ -cr ax ay bx by' cx cy = 0) = (cr ax ay bx by' cx cy = 0 ∧ cr ax ay bx by' dx dy = 0) := by apply propext; omega
      have e : (bx = ax) = (ax = bx) := propext ⟨Eq.symm, Eq.symm⟩
      simp only [c, e]
theorem meet_ex {ax ay bx by' cx cy dx dy : Int} (ha : in2 ax ay = true) (hb : in2 bx by' = true) (hc : in2 cx cy = true) (hd : in2 dx dy = true) :
    meetE dx dy cx cy ax ay bx by' = meetE ax ay bx by' cx cy dx dy := by
  unfold meetE
  by_cases n1 : ax = bx ∧ ay = by'
  · obtain ⟨rfl, rfl⟩ := n1
    by_cases n2 : cx = dx ∧ cy = dy
    · obtain ⟨rfl, rfl⟩ := n2
      rw [if_pos ⟨rfl, rfl⟩, if_pos ⟨rfl, rfl⟩, ons_deg, ons_deg]
      have : (cx = ax ∧ cy = ay) = (ax = cx ∧ ay = cy) := by apply propext; omega
      simp only [this]
    · rw [if_neg (show ¬ (dx = cx ∧ dy = cy) from fun h => n2 ⟨h.1.symm, h.2.symm⟩), if_pos ⟨rfl, rfl⟩, if_pos ⟨rfl, rfl⟩, ons_swap hc hd ha]
  · by_cases n2 : cx = dx ∧ cy = dy
    · obtain ⟨rfl, rfl⟩ := n2
      rw [if_pos ⟨rfl, rfl⟩, if_neg n1, if_pos ⟨rfl, rfl⟩]
    · have n2' : ¬ (dx = cx ∧ dy = cy) := fun h => n2 ⟨h.1.symm, h.2.symm⟩
      rw [if_neg n2', if_neg n1, if_neg n1, if_neg n2]
      rw [cr_swap cx cy dx dy ax ay, cr_swap cx cy dx dy bx by']
      by_cases c : cr ax ay bx by' cx cy = 0 ∧ cr ax ay bx by' dx dy = 0
      · have c' := col_imp n1 c.1 c.2
        rw [if_pos c, if_pos (show -cr cx cy dx dy ax ay = 0 ∧ -cr cx cy dx dy bx by' = 0 by omega), spans_ex ay by' cy dy, spans_ex ax bx cx dx]
        by_cases e : ax = bx
        · have ny : ay ≠ by' := fun h => n1 ⟨e, h⟩
          have u1 := upright e ny c.1
          have u2 := upright e ny c.2
          rw [if_pos e, if_pos (show dx = cx by omega)]
        · have l := lined e c.1 c.2
          rw [if_neg e, if_neg (show ¬ dx = cx from fun h => n2 ⟨h.symm, l.hcd h.symm⟩)]
      · have c' : ¬ (cr cx cy dx dy ax ay = 0 ∧ cr cx cy dx dy bx by' = 0) := by
          intro h
          exact c (col_imp n2 h.1 h.2)
        rw [if_neg c, if_neg (show ¬ (-cr cx cy dx dy ax ay = 0 ∧ -cr cx cy dx dy bx by' = 0) by omega), sgn_neg, sgn_neg, Int.neg_mul_neg, Int.mul_comm (sgn (cr ax ay bx by' dx dy))]
        have : (sgn (cr cx cy dx dy ax ay) * sgn (cr cx cy dx dy bx by') ≤ 0 ∧ sgn (cr ax ay bx by' cx cy) * sgn (cr ax ay bx by' dx dy) ≤ 0) = (sgn (cr ax ay bx by' cx cy) * sgn (cr ax ay bx by' dx dy) ≤ 0 ∧ sgn (cr cx cy dx dy ax ay) * sgn (cr cx cy dx dy bx by') ≤ 0) := propext And.comm
        simp only [this]
end Go.Proofs.Ytoffcodhcbgbdaa
