/- The fraction seat: sums and products depend on the values alone; plain Lean. -/
import Derived.Test.YtkmffnjmiechfaaDoorFM5
namespace Go.Proofs.YtkmffnjmiechfaaDoor
open Go.Sx
theorem low_eq {n d m e : Int} (c1 : Nat.Coprime n.natAbs d.natAbs) (c2 : Nat.Coprime m.natAbs e.natAbs) (hd : 0 < d) (he : 0 < e) (h : n * e = m * d) : n = m ∧ d = e := by
  have hn : n.natAbs * e.natAbs = m.natAbs * d.natAbs := by rw [← Int.natAbs_mul, ← Int.natAbs_mul, h]
  have d1 : d.natAbs ∣ e.natAbs := c1.symm.dvd_of_dvd_mul_left (by rw [hn]; exact Nat.dvd_mul_left _ _)
  have d2 : e.natAbs ∣ d.natAbs := c2.symm.dvd_of_dvd_mul_left (by rw [← hn]; exact Nat.dvd_mul_left _ _)
  have e1 := Nat.dvd_antisymm d1 d2
  have e2 : d = e := by omega
  subst e2
  exact ⟨Int.eq_of_mul_eq_mul_right (by omega) h, rfl⟩
/-- A number in lowest terms. -/
theorem low_of {N D : Int} (hD : 0 < D) : 0 < D / gI N D ∧ Nat.Coprime (N.tdiv (gI N D)).natAbs (D / gI N D).natAbs ∧ N.tdiv (gI N D) * D = N * (D / gI N D) ∧ ab (N.tdiv (gI N D)) = ab N / gI N D := by
  have G0 : 0 < gI N D := gI_pos (.inr hD)
  have d1 := Int.ediv_pos_of_pos_of_dvd hD (Int.le_of_lt G0) (gI_dvd_right N D)
  refine ⟨d1, ?_, ?_, ?_⟩
  · have k1 : (N.tdiv (gI N D)).natAbs = N.natAbs / Nat.gcd N.natAbs D.natAbs := by rw [Int.natAbs_tdiv]; rfl
    have k2 : (D / gI N D).natAbs = D.natAbs / Nat.gcd N.natAbs D.natAbs := by
      rw [← Int.tdiv_eq_ediv_of_nonneg (by omega), Int.natAbs_tdiv]; rfl
    rw [k1, k2]
    exact Nat.coprime_div_gcd_div_gcd (Nat.gcd_pos_of_pos_right _ (by omega))
  · obtain ⟨x, hx⟩ := gI_dvd_left N D
    obtain ⟨y, hy⟩ := gI_dvd_right N D
    generalize gI N D = g at *
    subst hx hy
    rw [Int.mul_tdiv_cancel_left _ (by omega), Int.mul_ediv_cancel_left _ (by omega)]
    grind
  · rw [tdiv_sgn G0]
    have a0 := Int.ediv_nonneg (ab_nonneg N) (Int.le_of_lt G0)
    generalize ab N / gI N D = q at *
    unfold ab
    split <;> (split <;> omega)
theorem fr_congr {N D M E : Int} (hD : 0 < D) (hE : 0 < E) (h : N * E = M * D) : frN N D = frN M E ∧ frD N D = frD M E ∧ frE N D = frE M E := by
  obtain ⟨p1, c1, e1, a1⟩ := low_of (N := N) hD
  obtain ⟨p2, c2, e2, a2⟩ := low_of (N := M) hE
  have key : N.tdiv (gI N D) * (M.tdiv (gI M E) * 0 + E / gI M E) = M.tdiv (gI M E) * (D / gI N D) := by
    rw [Int.mul_zero, Int.zero_add]
    generalize N.tdiv (gI N D) = n at *
    generalize D / gI N D = d at *
    generalize M.tdiv (gI M E) = m at *
    generalize E / gI M E = e at *
    apply Int.eq_of_mul_eq_mul_right (a := D * E) (Int.ne_of_gt (Int.mul_pos hD hE))
    have k1 : n * e * (D * E) = n * D * (e * E) := by grind
    have k2 : m * d * (D * E) = m * E * (d * D) := by grind
    rw [k1, k2, e1, e2]
    have k3 : N * d * (e * E) = N * E * (d * e) := by grind
    have k4 : M * e * (d * D) = M * D * (d * e) := by grind
    rw [k3, k4, h]
  rw [Int.mul_zero, Int.zero_add] at key
  obtain ⟨q1, q2⟩ := low_eq c1 c2 p1 p2 key
  have ok : frOk N D = frOk M E := by
    unfold frOk
    rw [← a1, ← a2, q1, q2]
  unfold frN frD frE
  rw [ok, q1, q2]
  exact ⟨rfl, rfl, rfl⟩
theorem fr_id {n d : Int} (v : vF n d = true) : frN n d = n ∧ frD n d = d ∧ frE n d = 0 := by
  have w := v
  rw [vF_iff] at w
  have g : gI n d = 1 := w.2.2
  have ok : frOk n d = true := by
    unfold frOk
    rw [g, Int.ediv_one, Int.ediv_one]
    simp only [Bool.and_eq_true, decide_eq_true_eq, BD]
    unfold ab
    split <;> omega
  unfold frN frD frE
  rw [if_pos ok, if_pos ok, if_pos ok, g, Int.ediv_one]
  refine ⟨?_, rfl, rfl⟩
  exact Int.tdiv_one n
theorem fr_low {N D n d : Int} (hD : 0 < D) (v : vF n d = true) (h : N * d = n * D) : frN N D = n ∧ frD N D = d ∧ frE N D = 0 := by
  have w := v
  rw [vF_iff] at w
  obtain ⟨a, b, c⟩ := fr_congr hD (show 0 < d by omega) h
  obtain ⟨a', b', c'⟩ := fr_id v
  exact ⟨a.trans a', b.trans b', c.trans c'⟩
/-- Values that are equal: sums and products of them are, too. -/
theorem val_add {n d N D m e M E : Int} (h1 : n * D = N * d) (h2 : m * E = M * e) : (n * e + m * d) * (D * E) = (N * E + M * D) * (d * e) := by grind
theorem val_mul {n d N D m e M E : Int} (h1 : n * D = N * d) (h2 : m * E = M * e) : n * m * (D * E) = N * M * (d * e) := by grind
theorem val_trans {n d N D m e : Int} (hD : 0 < D) (h1 : n * D = N * d) (h2 : N * e = m * D) : n * e = m * d := by
  apply Int.eq_of_mul_eq_mul_right (a := D) (Int.ne_of_gt hD)
  grind
end Go.Proofs.YtkmffnjmiechfaaDoor
