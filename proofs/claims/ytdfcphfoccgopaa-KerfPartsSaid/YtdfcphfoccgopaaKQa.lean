/- The kerf seat: slices and cuts of the program, in plain Lean: what the printed functions compute. -/
import Derived.Test.YtdfcphfoccgopaaQK3
namespace Go.Proofs.Ytdfcphfoccgopaa.QK
open Go.Sx Go.RowKit
set_option linter.unusedVariables false
set_option linter.unusedSimpArgs false
theorem w64 {n : Int} (h1 : -9223372036854775808 ≤ n) (h2 : n ≤ 9223372036854775807) : wrap64 n = n := by unfold wrap64; omega
/-- The begin of slice j. -/
def beg (x0 y0 z0 ax t q : Int) (j : Nat) : Int := gx x0 y0 z0 ax + (j : Int) * (t + q)
def slc (x0 y0 z0 x1 y1 z1 ax t q : Int) (j : Nat) : S25 :=
  ⟨⟨pX x0 ax (beg x0 y0 z0 ax t q j), pY y0 ax (beg x0 y0 z0 ax t q j), pZ z0 ax (beg x0 y0 z0 ax t q j)⟩, ⟨pX x1 ax (beg x0 y0 z0 ax t q j + t), pY y1 ax (beg x0 y0 z0 ax t q j + t), pZ z1 ax (beg x0 y0 z0 ax t q j + t)⟩⟩
def slcs (x0 y0 z0 x1 y1 z1 ax t q : Int) (m : Nat) : List S25 := (List.range m).map (slc x0 y0 z0 x1 y1 z1 ax t q)
/-- What is left. -/
def rs (x0 y0 z0 x1 y1 z1 ax t q : Int) (n : Nat) (v : Int) : Int := if beg x0 y0 z0 ax t q n < gx x1 y1 z1 ax then v else 0
structure Ok (x0 y0 z0 x1 y1 z1 ax t q : Int) (n : Nat) : Prop where
  ha : inA ax = true
  ht : 1 ≤ t ∧ t ≤ 2000000
  hq : 0 ≤ q ∧ q ≤ 1000
  hn : 1 ≤ n ∧ n ≤ 1000
  lo : -1000000 ≤ gx x0 y0 z0 ax ∧ gx x0 y0 z0 ax ≤ 1000000
  hi : -1000000 ≤ gx x1 y1 z1 ax ∧ gx x1 y1 z1 ax ≤ 1000000
  up : (n : Int) * (t + q) ≤ gx x1 y1 z1 ax - gx x0 y0 z0 ax + q
  dn : gx x1 y1 z1 ax - gx x0 y0 z0 ax + q < ((n : Int) + 1) * (t + q)
  pos : gx x0 y0 z0 ax < gx x1 y1 z1 ax
theorem ok_of {x0 y0 z0 x1 y1 z1 ax t q : Int} (h : cntE x0 y0 z0 x1 y1 z1 ax t q = 0) : ∃ n : Nat, cntN x0 y0 z0 x1 y1 z1 ax t q = n ∧ Ok x0 y0 z0 x1 y1 z1 ax t q n := by
  have hB : chkB x0 y0 z0 x1 y1 z1 = 0 := by
    apply Decidable.by_contra
    intro hn
    unfold cntE at h
    rw [if_neg hn] at h
    exact hn h
  unfold cntE at h
  rw [if_pos hB] at h
  have ha : inA ax = true := by
    apply Decidable.by_contra
    intro hn
    rw [if_neg hn] at h
    omega
  rw [if_pos ha] at h
  have h2 : inL t = true ∧ inK q = true := by
    apply Decidable.by_contra
    intro hn
    rw [if_neg hn] at h
    omega
  rw [if_pos h2] at h
  have h3 : ¬ cntN x0 y0 z0 x1 y1 z1 ax t q = 0 := by
    intro hn
    rw [if_pos hn] at h
    omega
  rw [if_neg h3] at h
  have h4 : ¬ 1000 < cntN x0 y0 z0 x1 y1 z1 ax t q := by
    intro hn
    rw [if_pos hn] at h
    omega
  have hl := gx_len (ax := ax) hB
  have hb := (chkB_ok.1 hB).1
  simp only [inB, Bool.and_eq_true] at hb
  have g0 := gx_bd (ax := ax) hb.1
  have g1 := gx_bd (ax := ax) hb.2
  obtain ⟨ht, hq⟩ := h2
  rw [inL_iff] at ht hl
  rw [inK_iff] at hq
  have n0 : 0 ≤ cntN x0 y0 z0 x1 y1 z1 ax t q := Int.ediv_nonneg (by omega) (by omega)
  have d := Int.emod_add_mul_ediv (gx x1 y1 z1 ax - gx x0 y0 z0 ax + q) (t + q)
  have d1 := Int.emod_nonneg (gx x1 y1 z1 ax - gx x0 y0 z0 ax + q) (show t + q ≠ 0 by omega)
  have d2 := Int.emod_lt_of_pos (gx x1 y1 z1 ax - gx x0 y0 z0 ax + q) (show 0 < t + q by omega)
  have e : (gx x1 y1 z1 ax - gx x0 y0 z0 ax + q) / (t + q) = cntN x0 y0 z0 x1 y1 z1 ax t q := rfl
  rw [e, Int.mul_comm] at d
  refine ⟨(cntN x0 y0 z0 x1 y1 z1 ax t q).toNat, by omega, ha, ht, hq, by omega, g0, g1, ?_, ?_, by omega⟩
  · rw [show (((cntN x0 y0 z0 x1 y1 z1 ax t q).toNat : Nat) : Int) = cntN x0 y0 z0 x1 y1 z1 ax t q by omega]
    omega
  · rw [show (((cntN x0 y0 z0 x1 y1 z1 ax t q).toNat : Nat) : Int) = cntN x0 y0 z0 x1 y1 z1 ax t q by omega, Int.add_mul, Int.one_mul]
    omega
section
variable {x0 y0 z0 x1 y1 z1 ax t q : Int} {n : Nat}
theorem Ok.bd (o : Ok x0 y0 z0 x1 y1 z1 ax t q n) {j : Nat} (h : j ≤ n) : -1000000 ≤ beg x0 y0 z0 ax t q j ∧ beg x0 y0 z0 ax t q j ≤ 3001000 := by
  have h1 : (j : Int) * (t + q) ≤ (n : Int) * (t + q) := Int.mul_le_mul_of_nonneg_right (by omega) (by have := o.ht; have := o.hq; omega)
  have h2 : 0 ≤ (j : Int) * (t + q) := Int.mul_nonneg (by omega) (by have := o.ht; have := o.hq; omega)
  have := o.up
  have := o.lo
  have := o.hi
  have := o.hq
  unfold beg
  omega
theorem beg_succ (j : Nat) : beg x0 y0 z0 ax t q (j + 1) = beg x0 y0 z0 ax t q j + (t + q) := by
  unfold beg
  rw [show ((j + 1 : Nat) : Int) = (j : Int) + 1 by omega, Int.add_mul, Int.one_mul]
  omega
theorem beg_zero : beg x0 y0 z0 ax t q 0 = gx x0 y0 z0 ax := by unfold beg; simp
theorem slcs_succ (j : Nat) : slcs x0 y0 z0 x1 y1 z1 ax t q (j + 1) = slcs x0 y0 z0 x1 y1 z1 ax t q j ++ [slc x0 y0 z0 x1 y1 z1 ax t q j] := by
  unfold slcs
  rw [List.range_succ, List.map_append]
  rfl
theorem slcs_len (m : Nat) : (slcs x0 y0 z0 x1 y1 z1 ax t q m).length = m := by simp [slcs]
theorem slcs_get {m j : Nat} (h : j < m) : rd_T25 (slcs x0 y0 z0 x1 y1 z1 ax t q m) (j : Int) = slc x0 y0 z0 x1 y1 z1 ax t q j := by
  unfold rd_T25 slcs
  rw [Int.toNat_natCast, List.getD_eq_getElem?_getD, List.getElem?_map, List.getElem?_range h]
  rfl
theorem kloop (o : Ok x0 y0 z0 x1 y1 z1 ax t q n) : ∀ (d j fuel : Nat), n = j + d → d < fuel →
    K_Slices.l0 fuel ax t q (gx x1 y1 z1 ax) (slcs x0 y0 z0 x1 y1 z1 ax t q j) (beg x0 y0 z0 ax t q j) n j x0 y0 z0 x1 y1 z1 =
      some (slcs x0 y0 z0 x1 y1 z1 ax t q n, rs x0 y0 z0 x1 y1 z1 ax t q n (pX x0 ax (beg x0 y0 z0 ax t q n)), rs x0 y0 z0 x1 y1 z1 ax t q n (pY y0 ax (beg x0 y0 z0 ax t q n)), rs x0 y0 z0 x1 y1 z1 ax t q n (pZ z0 ax (beg x0 y0 z0 ax t q n)),
        rs x0 y0 z0 x1 y1 z1 ax t q n x1, rs x0 y0 z0 x1 y1 z1 ax t q n y1, rs x0 y0 z0 x1 y1 z1 ax t q n z1, 0)
  | 0, j, f + 1, hj, _ => by
    obtain rfl : n = j := by omega
    simp only [K_Slices.l0, K_between.f]
    rw [if_neg (by omega), if_pos o.ha]
    by_cases h : beg x0 y0 z0 ax t q n < gx x1 y1 z1 ax
    · simp [rs, h, pX_gx, pY_gx, pZ_gx]
    · simp [rs, h]
  | d + 1, j, f + 1, hj, hf => by
    have hb := o.bd (j := j) (by omega)
    have ht := o.ht
    have hq := o.hq
    have hn := o.hn
    have ih := kloop o d (j + 1) f (by omega) (by omega)
    simp only [K_Slices.l0, K_between.f]
    rw [if_pos (by omega), if_pos o.ha, Option.bind_some, slcs_len, if_pos (by omega), w64 (n := beg x0 y0 z0 ax t q j + t) (by omega) (by omega), w64 (n := t + q) (by omega) (by omega), w64 (n := beg x0 y0 z0 ax t q j + (t + q)) (by omega) (by omega), w64 (n := (j : Int) + 1) (by omega) (by omega)]
    rw [slcs_succ, beg_succ] at ih
    exact ih
  | d, j, 0, _, hf => by omega
theorem kslices (o : Ok x0 y0 z0 x1 y1 z1 ax t q n) (hE : cntE x0 y0 z0 x1 y1 z1 ax t q = 0) (hN : cntN x0 y0 z0 x1 y1 z1 ax t q = n) {k : Nat} (hk : 1001 ≤ k) : K_Slices.f k x0 y0 z0 x1 y1 z1 ax t q =
      some (slcs x0 y0 z0 x1 y1 z1 ax t q n, rs x0 y0 z0 x1 y1 z1 ax t q n (pX x0 ax (beg x0 y0 z0 ax t q n)), rs x0 y0 z0 x1 y1 z1 ax t q n (pY y0 ax (beg x0 y0 z0 ax t q n)), rs x0 y0 z0 x1 y1 z1 ax t q n (pZ z0 ax (beg x0 y0 z0 ax t q n)),
        rs x0 y0 z0 x1 y1 z1 ax t q n x1, rs x0 y0 z0 x1 y1 z1 ax t q n y1, rs x0 y0 z0 x1 y1 z1 ax t q n z1, 0) := by
  have h := kloop o n 0 k (by omega) (by have := o.hn; omega)
  rw [beg_zero] at h
  unfold K_Slices.f K_count.f K_ends.f
  simp only [Option.bind_some, cnt0, cnt1, if_pos hE, if_pos o.ha, hN]
  exact h
/-- How many cuts there are. -/
def cnum (x0 y0 z0 x1 y1 z1 ax t q : Int) (n : Nat) : Nat := if beg x0 y0 z0 ax t q n < gx x1 y1 z1 ax then n else n - 1
def cut33 (x0 y0 z0 ax t q : Int) (j : Nat) : S33 := ⟨ax, beg x0 y0 z0 ax t q j + t, q⟩
def cuts33 (x0 y0 z0 ax t q : Int) (m : Nat) : List S33 := (List.range m).map (cut33 x0 y0 z0 ax t q)
theorem cuts33_succ (j : Nat) : cuts33 x0 y0 z0 ax t q (j + 1) = cuts33 x0 y0 z0 ax t q j ++ [⟨ax, beg x0 y0 z0 ax t q j + t, q⟩] := by
  unfold cuts33
  rw [List.range_succ, List.map_append]
  rfl
theorem cuts33_len (m : Nat) : (cuts33 x0 y0 z0 ax t q m).length = m := by simp [cuts33]
theorem cuts33_get {m j : Nat} (h : j < m) : rd_T33 (cuts33 x0 y0 z0 ax t q m) (j : Int) = cut33 x0 y0 z0 ax t q j := by
  unfold rd_T33 cuts33
  rw [Int.toNat_natCast, List.getD_eq_getElem?_getD, List.getElem?_map, List.getElem?_range h]
  rfl
theorem gx_slc (o : Ok x0 y0 z0 x1 y1 z1 ax t q n) (j : Nat) : gx (slc x0 y0 z0 x1 y1 z1 ax t q j).f1.f0 (slc x0 y0 z0 x1 y1 z1 ax t q j).f1.f1 (slc x0 y0 z0 x1 y1 z1 ax t q j).f1.f2 ax = beg x0 y0 z0 ax t q j + t := by
  have ha := o.ha
  unfold slc gx pX pY pZ
  rcases ax3 ha with rfl | rfl | rfl <;> simp
/-- Something is left exactly if a coordinate of it is not 0. -/
theorem rs_ne (o : Ok x0 y0 z0 x1 y1 z1 ax t q n) :
    ((!(rs x0 y0 z0 x1 y1 z1 ax t q n (pX x0 ax (beg x0 y0 z0 ax t q n)) == 0) || (!(rs x0 y0 z0 x1 y1 z1 ax t q n (pY y0 ax (beg x0 y0 z0 ax t q n)) == 0) || (!(rs x0 y0 z0 x1 y1 z1 ax t q n (pZ z0 ax (beg x0 y0 z0 ax t q n)) == 0)))) ||
      ((!(rs x0 y0 z0 x1 y1 z1 ax t q n x1 == 0) || (!(rs x0 y0 z0 x1 y1 z1 ax t q n y1 == 0) || (!(rs x0 y0 z0 x1 y1 z1 ax t q n z1 == 0)))))) = decide (beg x0 y0 z0 ax t q n < gx x1 y1 z1 ax) := by
  unfold rs
  by_cases h : beg x0 y0 z0 ax t q n < gx x1 y1 z1 ax
  · simp only [if_pos h]
    rw [decide_eq_true h]
    have ha := o.ha
    generalize beg x0 y0 z0 ax t q n = b at h
    unfold gx at h
    unfold pX pY pZ
    rcases ax3 ha with rfl | rfl | rfl
    all_goals
      simp at h ⊢
      omega
  · simp only [if_neg h]
    rw [decide_eq_false h]
    rfl
theorem cnum_iff (o : Ok x0 y0 z0 x1 y1 z1 ax t q n) {j : Nat} (h : j < n) : (j + 1 < n ∨ beg x0 y0 z0 ax t q n < gx x1 y1 z1 ax) ↔ j < cnum x0 y0 z0 x1 y1 z1 ax t q n := by
  unfold cnum
  split <;> simp_all <;> omega
theorem cnum_le : cnum x0 y0 z0 x1 y1 z1 ax t q n ≤ n := by unfold cnum; split <;> omega
theorem kcloop (o : Ok x0 y0 z0 x1 y1 z1 ax t q n) : ∀ (d j fuel : Nat), n = j + d → d < fuel →
    K_Cuts.l0 fuel ax q (slcs x0 y0 z0 x1 y1 z1 ax t q n) (cuts33 x0 y0 z0 ax t q (min j (cnum x0 y0 z0 x1 y1 z1 ax t q n))) (slcs x0 y0 z0 x1 y1 z1 ax t q n) n j
      (rs x0 y0 z0 x1 y1 z1 ax t q n (pX x0 ax (beg x0 y0 z0 ax t q n))) (rs x0 y0 z0 x1 y1 z1 ax t q n (pY y0 ax (beg x0 y0 z0 ax t q n))) (rs x0 y0 z0 x1 y1 z1 ax t q n (pZ z0 ax (beg x0 y0 z0 ax t q n)))
        (rs x0 y0 z0 x1 y1 z1 ax t q n x1) (rs x0 y0 z0 x1 y1 z1 ax t q n y1) (rs x0 y0 z0 x1 y1 z1 ax t q n z1) = some (cuts33 x0 y0 z0 ax t q (cnum x0 y0 z0 x1 y1 z1 ax t q n), 0)
  | 0, j, f + 1, hj, _ => by
    have hl := cnum_le (x0 := x0) (y0 := y0) (z0 := z0) (x1 := x1) (y1 := y1) (z1 := z1) (ax := ax) (t := t) (q := q) (n := n)
    obtain rfl : n = j := by omega
    simp only [K_Cuts.l0]
    rw [if_neg (by omega), Nat.min_eq_right hl]
  | d + 1, j, f + 1, hj, hf => by
    have hl := cnum_le (x0 := x0) (y0 := y0) (z0 := z0) (x1 := x1) (y1 := y1) (z1 := z1) (ax := ax) (t := t) (q := q) (n := n)
    have hn := o.hn
    have hi := cnum_iff o (j := j) (by omega)
    have ih := kcloop o d (j + 1) f (by omega) (by omega)
    simp only [K_Cuts.l0, K_ends.f, rs_ne o]
    rw [if_pos (by omega), if_pos (by omega), slcs_len, if_pos (by omega), slcs_get (by omega), if_pos o.ha, Option.bind_some, w64 (n := (j : Int) + 1) (by omega) (by omega)]
    simp only [gx_slc o j, cuts33_len]
    by_cases hc : j < cnum x0 y0 z0 x1 y1 z1 ax t q n
    · rw [Nat.min_eq_left (by omega)] at ih ⊢
      rw [cuts33_succ] at ih
      by_cases h1 : j + 1 < n
      · rw [if_pos (by omega), if_pos (by omega)]
        exact ih
      · rw [if_neg (by omega)]
        have h2 : beg x0 y0 z0 ax t q n < gx x1 y1 z1 ax := (hi.2 hc).resolve_left h1
        rw [if_pos (decide_eq_true h2), if_pos (by omega)]
        exact ih
    · have h1 : ¬ j + 1 < n := fun h => hc (hi.1 (.inl h))
      have h2 : ¬ beg x0 y0 z0 ax t q n < gx x1 y1 z1 ax := fun h => hc (hi.1 (.inr h))
      rw [Nat.min_eq_right (by omega)] at ih ⊢
      rw [if_neg (by omega), if_neg (by simp [h2])]
      exact ih
  | d, j, 0, _, hf => by omega
theorem kcuts (o : Ok x0 y0 z0 x1 y1 z1 ax t q n) (hE : cntE x0 y0 z0 x1 y1 z1 ax t q = 0) (hN : cntN x0 y0 z0 x1 y1 z1 ax t q = n) {k : Nat} (hk : 1001 ≤ k) : K_Cuts.f k x0 y0 z0 x1 y1 z1 ax t q = some (cuts33 x0 y0 z0 ax t q (cnum x0 y0 z0 x1 y1 z1 ax t q n), 0) := by
  have h := kcloop o n 0 k (by omega) (by have := o.hn; omega)
  unfold K_Cuts.f
  rw [kslices o hE hN hk]
  simp only [Option.bind_some, if_true, slcs_len]
  rw [Nat.zero_min] at h
  exact h
end
end Go.Proofs.Ytdfcphfoccgopaa.QK
