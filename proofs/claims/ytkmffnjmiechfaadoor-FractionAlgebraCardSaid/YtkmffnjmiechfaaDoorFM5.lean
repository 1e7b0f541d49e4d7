/- The fraction seat: order, sums and ranges of fractions, in plain Lean. -/
import Derived.Test.YtkmffnjmiechfaaDoorFLaw
namespace Go.Proofs.YtkmffnjmiechfaaDoor
open Go.Sx
theorem tri {a b c A B C : Int} (hA : 0 < A) (hB : 0 < B) (hC : 0 < C) (h1 : a * B ≤ b * A) (h2 : b * C ≤ c * B) : a * C ≤ c * A := by
  have k1 := Int.mul_le_mul_of_nonneg_right h1 (Int.le_of_lt hC)
  have k2 := Int.mul_le_mul_of_nonneg_right h2 (Int.le_of_lt hA)
  have e1 : a * B * C = a * C * B := by grind
  have e2 : b * A * C = b * C * A := by grind
  have e3 : c * B * A = c * A * B := by grind
  exact Int.le_of_mul_le_mul_right (show a * C * B ≤ c * A * B by omega) hB
def simX (an ad bn bd : Int) : Int := if 0 < an then simN an ad bn bd else if bn < 0 then -simN (-bn) bd (-an) ad else 0
def simY (an ad bn bd : Int) : Int := if 0 < an then simD an ad bn bd else if bn < 0 then simD (-bn) bd (-an) ad else 1
theorem sim_range {an ad bn bd : Int} (v1 : vF an ad = true) (v2 : vF bn bd = true) (c : an * bd ≤ bn * ad) :
    an * simY an ad bn bd ≤ simX an ad bn bd * ad ∧ simX an ad bn bd * bd ≤ bn * simY an ad bn bd ∧ 1 ≤ simY an ad bn bd := by
  unfold simX simY
  by_cases h1 : 0 < an
  · rw [if_pos h1, if_pos h1]
    have hs := simB_pos v1 v2 c h1
    exact ⟨(sim_in hs).1, (sim_in hs).2, (sim_pos hs).2⟩
  · rw [if_neg h1, if_neg h1]
    by_cases h2 : bn < 0
    · rw [if_pos h2, if_pos h2]
      have hs := simB_mirror v1 v2 c h2
      have k := sim_in hs
      rw [Int.neg_mul, Int.neg_mul] at k
      rw [Int.neg_mul, Int.neg_mul]
      exact ⟨by omega, by omega, (sim_pos hs).2⟩
    · rw [if_neg h2, if_neg h2]
      omega
theorem sim_wide {an ad bn bd cn cd : Int} (v1 : vF an ad = true) (v2 : vF bn bd = true) (v3 : vF cn cd = true) (c : an * bd ≤ bn * ad) (c' : bn * cd ≤ cn * bd) :
    an * cd ≤ cn * ad ∧ simY an ad cn cd ≤ simY an ad bn bd := by
  have r := sim_range v1 v2 c
  have w1 := v1
  have w2 := v2
  have w3 := v3
  rw [vF_iff] at w1 w2 w3
  have ac : an * cd ≤ cn * ad := tri (by omega) (by omega) (by omega) c c'
  refine ⟨ac, ?_⟩
  have xc : simX an ad bn bd * cd ≤ cn * simY an ad bn bd := tri (by omega) (by omega) (by omega) r.2.1 c'
  by_cases h1 : 0 < an
  · have hs := simB_pos v1 v3 ac h1
    have e : simY an ad cn cd = simD an ad cn cd := if_pos h1
    rw [e]
    exact (sim_min hs (simX an ad bn bd) (simY an ad bn bd) r.2.2 r.1 xc).2
  · by_cases h2 : cn < 0
    · have hs := simB_mirror v1 v3 ac h2
      have e : simY an ad cn cd = simD (-cn) cd (-an) ad := by unfold simY; rw [if_neg h1, if_pos h2]
      rw [e]
      refine (sim_min hs (-simX an ad bn bd) (simY an ad bn bd) r.2.2 ?_ ?_).2
      · rw [Int.neg_mul, Int.neg_mul]; omega
      · rw [Int.neg_mul, Int.neg_mul]; omega
    · have e : simY an ad cn cd = 1 := by unfold simY; rw [if_neg h1, if_neg h2]
      rw [e]
      exact r.2.2
theorem frac_eq {an ad bn bd : Int} (v1 : vF an ad = true) (v2 : vF bn bd = true) (h : an * bd = bn * ad) : an = bn ∧ ad = bd := by
  have c1 := vF_cop v1
  have c2 := vF_cop v2
  rw [vF_iff] at v1 v2
  have hn : an.natAbs * bd.natAbs = bn.natAbs * ad.natAbs := by rw [← Int.natAbs_mul, ← Int.natAbs_mul, h]
  have d1 : ad.natAbs ∣ bd.natAbs := c1.symm.dvd_of_dvd_mul_left (by rw [hn]; exact Nat.dvd_mul_left _ _)
  have d2 : bd.natAbs ∣ ad.natAbs := c2.symm.dvd_of_dvd_mul_left (by rw [← hn]; exact Nat.dvd_mul_left _ _)
  have e := Nat.dvd_antisymm d1 d2
  have e' : ad = bd := by omega
  subst e'
  exact ⟨Int.eq_of_mul_eq_mul_right (by omega) h, rfl⟩
theorem cmp3_neg (a b : Int) : cmp3 a b = -cmp3 b a := by unfold cmp3; (repeat' split) <;> omega
theorem cmp3_zero (a b : Int) : cmp3 a b = 0 ↔ a = b := by unfold cmp3; (repeat' split) <;> omega
theorem cmp3_pos (a b : Int) : 0 < cmp3 a b ↔ b < a := by unfold cmp3; (repeat' split) <;> omega
theorem cmp3_bd (a b : Int) : -1 ≤ cmp3 a b ∧ cmp3 a b ≤ 1 := by unfold cmp3; (repeat' split) <;> omega
theorem scale_lt {z z' k m : Int} (hk : 0 < k) (hm : 0 < m) (h : z * k = z' * m) : (z < 0 ↔ z' < 0) ∧ (0 < z ↔ 0 < z') := by
  rcases Int.lt_trichotomy z 0 with c | c | c
  · have k1 := Int.mul_neg_of_neg_of_pos c hk
    have : z' < 0 := by
      apply Decidable.by_contra
      intro hn
      have := Int.mul_nonneg (show 0 ≤ z' by omega) (Int.le_of_lt hm)
      omega
    omega
  · subst c
    have : z' = 0 := by
      rcases Int.mul_eq_zero.1 (show z' * m = 0 by omega) with h | h
      · exact h
      · omega
    omega
  · have k1 := Int.mul_pos c hk
    have : 0 < z' := by
      apply Decidable.by_contra
      intro hn
      have := Int.mul_nonpos_of_nonpos_of_nonneg (show z' ≤ 0 by omega) (Int.le_of_lt hm)
      omega
    omega
theorem fr_val {N D : Int} (hD : 0 < D) (h : frOk N D = true) : frN N D * D = N * frD N D ∧ 1 ≤ frD N D := by
  have G0 : 0 < gI N D := gI_pos (.inr hD)
  have hv := fr_valid hD h
  rw [vF_iff] at hv
  refine ⟨?_, hv.1.1⟩
  unfold frN frD
  rw [if_pos h, if_pos h]
  obtain ⟨x, hx⟩ := gI_dvd_left N D
  obtain ⟨y, hy⟩ := gI_dvd_right N D
  generalize gI N D = g at *
  subst hx hy
  rw [Int.mul_tdiv_cancel_left _ (by omega), Int.mul_ediv_cancel_left _ (by omega)]
  grind
theorem cmp_add {an ad bn bd cn cd s S t U : Int} (hA : 0 < ad) (hB : 0 < bd) (hC : 0 < cd) (hS : 1 ≤ S) (hU : 1 ≤ U)
    (h1 : s * (ad * cd) = (an * cd + cn * ad) * S) (h2 : t * (bd * cd) = (bn * cd + cn * bd) * U) : cmp3 (s * U) (t * S) = cmp3 (an * bd) (bn * ad) := by
  have k := Int.mul_pos (Int.mul_pos hA hC) (Int.mul_pos hB hC)
  have m := Int.mul_pos (Int.mul_pos (show 0 < S by omega) (show 0 < U by omega)) (Int.mul_pos hC hC)
  have e : (s * U - t * S) * (ad * cd * (bd * cd)) = (an * bd - bn * ad) * (S * U * (cd * cd)) := by
    have e1 : (s * U - t * S) * (ad * cd * (bd * cd)) = s * (ad * cd) * (U * (bd * cd)) - t * (bd * cd) * (S * (ad * cd)) := by grind
    rw [e1, h1, h2]
    grind
  have l := scale_lt k m e
  unfold cmp3
  by_cases c1 : s * U < t * S
  · rw [if_pos c1, if_pos (by omega)]
  · rw [if_neg c1, if_neg (show ¬ an * bd < bn * ad by omega)]
    by_cases c2 : t * S < s * U
    · rw [if_pos c2, if_pos (by omega)]
    · rw [if_neg c2, if_neg (by omega)]
theorem floor_mono {a A b B : Int} (hA : 0 < A) (hB : 0 < B) (h : a * B ≤ b * A) : a / A ≤ b / B := by
  apply Int.le_ediv_of_mul_le hB
  have k := Int.ediv_mul_le a (Int.ne_of_gt hA)
  have k2 := Int.mul_le_mul_of_nonneg_right k (Int.le_of_lt hB)
  generalize a / A = q at *
  have e : q * A * B = q * B * A := by grind
  exact Int.le_of_mul_le_mul_right (show q * B * A ≤ b * A by omega) hA
theorem rp_mono {a A b B : Int} (hA : 0 < A) (hB : 0 < B) (h : a * B ≤ b * A) : rp a A ≤ rp b B := by
  unfold rp
  apply floor_mono (by omega) (by omega)
  have e1 : (2 * a + A) * (2 * B) = 4 * (a * B) + 2 * (A * B) := by grind
  have e2 : (2 * b + B) * (2 * A) = 4 * (b * A) + 2 * (A * B) := by grind
  omega
theorem rp_nonneg {n d : Int} (h0 : 0 ≤ n) (hd : 0 < d) : 0 ≤ rp n d := Int.ediv_nonneg (by omega) (by omega)
theorem rnd_mono {a A b B : Int} (hA : 0 < A) (hB : 0 < B) (h : a * B ≤ b * A) : rnd a A ≤ rnd b B := by
  unfold rnd
  by_cases h1 : a < 0
  · rw [if_pos h1]
    have p1 := rp_nonneg (n := -a) (d := A) (by omega) hA
    by_cases h2 : b < 0
    · rw [if_pos h2]
      have := rp_mono (a := -b) (A := B) (b := -a) (B := A) hB hA (by rw [Int.neg_mul, Int.neg_mul]; omega)
      omega
    · rw [if_neg h2]
      have := rp_nonneg (n := b) (d := B) (by omega) hB
      omega
  · rw [if_neg h1]
    have hb : 0 ≤ b := by
      apply Decidable.by_contra
      intro hn
      have k1 := Int.mul_neg_of_neg_of_pos (show b < 0 by omega) hA
      have k2 := Int.mul_nonneg (show 0 ≤ a by omega) (Int.le_of_lt hB)
      omega
    rw [if_neg (by omega)]
    exact rp_mono hA hB h
theorem rnd_floor {n d : Int} (hd : 0 < d) : rnd n d = n / d ∨ rnd n d = n / d + 1 := by
  unfold rnd
  by_cases h : n < 0
  · rw [if_pos h, rp_eq (by omega) hd]
    have r0 := Int.emod_nonneg (-n) (show d ≠ 0 by omega)
    have r1 := Int.emod_lt_of_pos (-n) hd
    have e := Int.mul_ediv_add_emod (-n) d
    generalize (-n) % d = r at *
    generalize (-n) / d = q at *
    by_cases hr : r = 0
    · have : n / d = -q := (div_uniq (r := 0) (by omega) hd (by rw [Int.mul_neg]; omega)).1
      rw [this, if_pos (by omega)]
      exact .inl rfl
    · have : n / d = -q - 1 := (div_uniq (r := d - r) (by omega) (by omega) (by rw [Int.mul_sub, Int.mul_neg]; omega)).1
      rw [this]
      split <;> omega
  · rw [if_neg h, rp_eq (by omega) hd]
    split <;> omega
theorem par_cases (s : ByteArray) : parE s = 0 ∨ parN s = 0 ∧ parD s = 0 ∧ parE s = 2 := by
  by_cases h : ∃ q : Int × Int, vF q.1 q.2 = true ∧ txt q.1 q.2 = s
  · obtain ⟨⟨n, d⟩, h1, h2⟩ := h
    exact .inl (par_yes h1 h2).2.2
  · exact .inr (par_no h)
end Go.Proofs.YtkmffnjmiechfaaDoor
