/- The fraction seat: lowest terms, in plain Lean. -/
import Derived.Test.YtkmffnjmiechfaaDoorFF2
namespace Go.Proofs.YtkmffnjmiechfaaDoor
open Go.Sx
theorem cop_of_gcd {a d : Nat} (hg : 0 < Nat.gcd a d) : Nat.Coprime (a / Nat.gcd a d) (d / Nat.gcd a d) := Nat.coprime_div_gcd_div_gcd hg
theorem gcd_prod {a b c d : Nat} (hab : Nat.Coprime a b) (hcd : Nat.Coprime c d) (hg : 0 < Nat.gcd a d) (hh : 0 < Nat.gcd c b) : Nat.gcd (a * c) (b * d) = Nat.gcd a d * Nat.gcd c b := by
  have h1 := cop_of_gcd hg
  have h2 := cop_of_gcd hh
  have da : a = Nat.gcd a d * (a / Nat.gcd a d) := (Nat.mul_div_cancel' (Nat.gcd_dvd_left a d)).symm
  have dd : d = Nat.gcd a d * (d / Nat.gcd a d) := (Nat.mul_div_cancel' (Nat.gcd_dvd_right a d)).symm
  have dc : c = Nat.gcd c b * (c / Nat.gcd c b) := (Nat.mul_div_cancel' (Nat.gcd_dvd_left c b)).symm
  have db : b = Nat.gcd c b * (b / Nat.gcd c b) := (Nat.mul_div_cancel' (Nat.gcd_dvd_right c b)).symm
  generalize Nat.gcd a d = g at *
  generalize Nat.gcd c b = h at *
  generalize a / g = a' at *
  generalize d / g = d' at *
  generalize c / h = c' at *
  generalize b / h = b' at *
  subst da dd dc db
  have e1 : g * a' * (h * c') = g * h * (a' * c') := by ac_rfl
  have e2 : h * b' * (g * d') = g * h * (b' * d') := by ac_rfl
  rw [e1, e2, Nat.gcd_mul_left]
  have k1 : Nat.Coprime a' b' := Nat.Coprime.coprime_dvd_left (Nat.dvd_mul_left a' g) (Nat.Coprime.coprime_dvd_right (Nat.dvd_mul_left b' h) hab)
  have k2 : Nat.Coprime c' d' := Nat.Coprime.coprime_dvd_left (Nat.dvd_mul_left c' h) (Nat.Coprime.coprime_dvd_right (Nat.dvd_mul_left d' g) hcd)
  have : Nat.Coprime (a' * c') (b' * d') := Nat.Coprime.mul_left (Nat.Coprime.mul_right k1 h1) (Nat.Coprime.mul_right h2 k2)
  rw [this, Nat.mul_one]
theorem cop_sum {a c : Int} {b' d' : Nat} (hab : Nat.Coprime a.natAbs b') (hbd : Nat.Coprime b' d') : Nat.Coprime (a * d' + c * b').natAbs b' := by
  have q1 := Nat.gcd_dvd_left (a * d' + c * b').natAbs b'
  have q2 := Nat.gcd_dvd_right (a * d' + c * b').natAbs b'
  unfold Nat.Coprime
  generalize Nat.gcd (a * d' + c * b').natAbs b' = q at *
  have i1 : (q : Int) ∣ a * d' + c * b' := Int.ofNat_dvd_left.2 q1
  have i2 : (q : Int) ∣ (b' : Int) := Int.natCast_dvd_natCast.2 q2
  have i3 : (q : Int) ∣ c * b' := Int.dvd_mul_of_dvd_right i2
  have i4 : (q : Int) ∣ a * d' := (Int.dvd_add_left i3).1 i1
  have n4 : q ∣ (a * d').natAbs := Int.ofNat_dvd_left.1 i4
  rw [Int.natAbs_mul, Int.natAbs_natCast] at n4
  have hc : Nat.Coprime (a.natAbs * d') b' := Nat.Coprime.mul_left hab hbd.symm
  have : q ∣ Nat.gcd (a.natAbs * d') b' := Nat.dvd_gcd n4 q2
  rw [hc] at this
  exact Nat.dvd_one.1 this
theorem gcd_sum {a c : Int} {b d : Nat} (hab : Nat.Coprime a.natAbs b) (hcd : Nat.Coprime c.natAbs d) (hg : 0 < Nat.gcd b d) :
    Nat.gcd (a * d + c * b).natAbs (b * d) = Nat.gcd b d * Nat.gcd (a * (d / Nat.gcd b d : Nat) + c * (b / Nat.gcd b d : Nat)).natAbs (Nat.gcd b d) := by
  have h1 := cop_of_gcd hg
  have dd : d = Nat.gcd b d * (d / Nat.gcd b d) := (Nat.mul_div_cancel' (Nat.gcd_dvd_right b d)).symm
  have db : b = Nat.gcd b d * (b / Nat.gcd b d) := (Nat.mul_div_cancel' (Nat.gcd_dvd_left b d)).symm
  generalize Nat.gcd b d = g at *
  generalize d / g = d' at *
  generalize b / g = b' at *
  subst dd db
  have kab : Nat.Coprime a.natAbs b' := Nat.Coprime.coprime_dvd_right (Nat.dvd_mul_left b' g) hab
  have kcd : Nat.Coprime c.natAbs d' := Nat.Coprime.coprime_dvd_right (Nat.dvd_mul_left d' g) hcd
  have t1 := cop_sum (c := c) kab h1
  have t2 := cop_sum (a := c) (c := a) kcd h1.symm
  rw [Int.add_comm] at t2
  have e1 : a * ((g * d' : Nat) : Int) + c * ((g * b' : Nat) : Int) = (g : Int) * (a * d' + c * b') := by
    rw [Int.natCast_mul, Int.natCast_mul, Int.mul_add]
    ac_rfl
  have e2 : g * b' * (g * d') = g * (b' * d' * g) := by ac_rfl
  rw [e1, e2, Int.natAbs_mul, Int.natAbs_natCast, Nat.gcd_mul_left]
  rw [Nat.Coprime.gcd_mul_left_cancel_right _ (Nat.Coprime.mul_right t1 t2).symm]
end Go.Proofs.YtkmffnjmiechfaaDoor
