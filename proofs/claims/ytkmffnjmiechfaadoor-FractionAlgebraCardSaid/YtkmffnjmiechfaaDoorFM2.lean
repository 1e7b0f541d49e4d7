/- The fraction seat: products in lowest terms, in plain Lean. -/
import Derived.Test.YtkmffnjmiechfaaDoorFM
namespace Go.Proofs.YtkmffnjmiechfaaDoor
open Go.Sx
theorem gI_nat (a b : Int) : gI a b = ((Nat.gcd a.natAbs b.natAbs : Nat) : Int) := rfl
theorem vF_cop {n d : Int} (h : vF n d = true) : Nat.Coprime n.natAbs d.natAbs := by
  rw [vF_iff] at h
  have := h.2.2
  rw [gI_nat] at this
  exact Int.ofNat.inj this
theorem mul_gcd {an ad bn bd : Int} (h1 : vF an ad = true) (h2 : vF bn bd = true) : gI (an * bn) (ad * bd) = gI an bd * gI bn ad := by
  have c1 := vF_cop h1
  have c2 := vF_cop h2
  rw [vF_iff] at h1 h2
  rw [gI_nat, gI_nat, gI_nat, Int.natAbs_mul, Int.natAbs_mul, gcd_prod c1 c2 (Nat.gcd_pos_of_pos_right _ (by omega)) (Nat.gcd_pos_of_pos_right _ (by omega)), Int.natCast_mul]
theorem gI_dvd_left (a b : Int) : gI a b ∣ a := Int.ofNat_dvd_left.2 (Nat.gcd_dvd_left _ _)
theorem gI_dvd_right (a b : Int) : gI a b ∣ b := Int.ofNat_dvd_left.2 (Nat.gcd_dvd_right _ _)
theorem div_mul_div {a b g h : Int} (hg : 0 < g) (hh : 0 < h) (d1 : g ∣ a) (d2 : h ∣ b) : a * b / (g * h) = a / g * (b / h) := by
  obtain ⟨x, rfl⟩ := d1
  obtain ⟨y, rfl⟩ := d2
  rw [Int.mul_ediv_cancel_left _ (by omega), Int.mul_ediv_cancel_left _ (by omega), show g * x * (h * y) = g * h * (x * y) by ac_rfl, Int.mul_ediv_cancel_left _ (Int.ne_of_gt (Int.mul_pos hg hh))]
theorem ab_mul (a b : Int) : ab (a * b) = ab a * ab b := by rw [ab_nat, ab_nat, ab_nat, Int.natAbs_mul, Int.natCast_mul]
theorem gI_dvd_ab (a b : Int) : gI a b ∣ ab a := by
  rw [ab_nat]
  exact Int.natCast_dvd_natCast.2 (Nat.gcd_dvd_left _ _)
theorem mul_num {an ad bn bd : Int} (h1 : vF an ad = true) (h2 : vF bn bd = true) : ab (an * bn) / gI (an * bn) (ad * bd) = ab an / gI an bd * (ab bn / gI bn ad) := by
  rw [mul_gcd h1 h2, ab_mul]
  rw [vF_iff] at h1 h2
  exact div_mul_div (gI_pos (.inr (by omega))) (gI_pos (.inr (by omega))) (gI_dvd_ab _ _) (gI_dvd_ab _ _)
theorem mul_den {an ad bn bd : Int} (h1 : vF an ad = true) (h2 : vF bn bd = true) : ad * bd / gI (an * bn) (ad * bd) = ad / gI bn ad * (bd / gI an bd) := by
  rw [mul_gcd h1 h2, Int.mul_comm (gI an bd)]
  rw [vF_iff] at h1 h2
  exact div_mul_div (gI_pos (.inr (by omega))) (gI_pos (.inr (by omega))) (gI_dvd_right _ _) (gI_dvd_right _ _)
end Go.Proofs.YtkmffnjmiechfaaDoor
