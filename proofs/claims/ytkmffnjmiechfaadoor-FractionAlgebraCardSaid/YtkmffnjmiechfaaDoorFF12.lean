/- The fraction seat: the division of two words by one. -/
import Derived.Test.YtkmffnjmiechfaaDoorFF9
namespace Go.Proofs.YtkmffnjmiechfaaDoor
open Go.Sx
set_option linter.unusedVariables false
set_option linter.unusedSimpArgs false
set_option maxRecDepth 100000


section
variable {y1 y0 U u q r : Int}
theorem knuth_dec (h1 : 2147483648 ≤ y1) (h0 : 0 ≤ y0) (h0' : y0 < 4294967296) (hU : 0 ≤ U) (hU' : U < y1 * 4294967296 + y0) (hu : 0 ≤ u) (hu' : u < 4294967296)
    (hq : q * y1 + r = U) (hr : 0 ≤ r) (hQ : (U * 4294967296 + u) / (y1 * 4294967296 + y0) ≤ q) (c : 4294967296 ≤ q ∨ 4294967296 * r + u < q * y0) :
    1 ≤ q ∧ (U * 4294967296 + u) / (y1 * 4294967296 + y0) ≤ q - 1 ∧ (q - 1) * y1 + (r + y1) = U ∧ (4294967296 ≤ r + y1 → q - 1 = (U * 4294967296 + u) / (y1 * 4294967296 + y0)) := by
  have yp : 0 < y1 * 4294967296 + y0 := by omega
  have lt : (U * 4294967296 + u) / (y1 * 4294967296 + y0) < q := by
    apply Int.ediv_lt_of_lt_mul yp
    rcases c with c | c
    · have := Int.mul_le_mul_of_nonneg_right c (Int.le_of_lt yp)
      omega
    · have e : q * (y1 * 4294967296 + y0) = q * y1 * 4294967296 + q * y0 := by rw [Int.mul_add, ← Int.mul_assoc]
      rw [e]
      omega
  have Q0 : 0 ≤ (U * 4294967296 + u) / (y1 * 4294967296 + y0) := Int.ediv_nonneg (by omega) (Int.le_of_lt yp)
  have e1 : (q - 1) * y1 = q * y1 - y1 := by rw [Int.sub_mul, Int.one_mul]
  refine ⟨by omega, by omega, by omega, fun hb => ?_⟩
  have le : q - 1 ≤ (U * 4294967296 + u) / (y1 * 4294967296 + y0) := by
    apply Int.le_ediv_of_mul_le yp
    have e : (q - 1) * (y1 * 4294967296 + y0) = (q - 1) * y1 * 4294967296 + (q - 1) * y0 := by rw [Int.mul_add, ← Int.mul_assoc]
    have b1 : q - 1 < 4294967296 := by
      apply Decidable.by_contra
      intro hn
      have := Int.mul_le_mul_of_nonneg_right (show 4294967296 ≤ q - 1 by omega) (show 0 ≤ y1 by omega)
      omega
    have b2 : (q - 1) * y0 ≤ 4294967296 * y0 := Int.mul_le_mul_of_nonneg_right (by omega) h0
    rw [e]
    omega
  omega
theorem knuth_end (h1 : 2147483648 ≤ y1) (h0 : 0 ≤ y0) (hq : q * y1 + r = U) (hQ : (U * 4294967296 + u) / (y1 * 4294967296 + y0) ≤ q) (c : q * y0 ≤ 4294967296 * r + u) : q = (U * 4294967296 + u) / (y1 * 4294967296 + y0) := by
  have yp : 0 < y1 * 4294967296 + y0 := by omega
  have le : q ≤ (U * 4294967296 + u) / (y1 * 4294967296 + y0) := by
    apply Int.le_ediv_of_mul_le yp
    have e : q * (y1 * 4294967296 + y0) = q * y1 * 4294967296 + q * y0 := by rw [Int.mul_add, ← Int.mul_assoc]
    rw [e]
    omega
  omega
theorem knuth_init (h1 : 2147483648 ≤ y1) (h0 : 0 ≤ y0) (hU : 0 ≤ U) (hu : 0 ≤ u) (hu' : u < 4294967296) : (U * 4294967296 + u) / (y1 * 4294967296 + y0) ≤ U / y1 := by
  have yp : 0 < y1 * 4294967296 + y0 := by omega
  apply Int.le_ediv_of_mul_le (by omega)
  have k := Int.ediv_mul_le (U * 4294967296 + u) (Int.ne_of_gt yp)
  have Q0 : 0 ≤ (U * 4294967296 + u) / (y1 * 4294967296 + y0) := Int.ediv_nonneg (by omega) (Int.le_of_lt yp)
  generalize (U * 4294967296 + u) / (y1 * 4294967296 + y0) = Q at *
  have e : Q * (y1 * 4294967296 + y0) = Q * y1 * 4294967296 + Q * y0 := by rw [Int.mul_add, ← Int.mul_assoc]
  rw [e] at k
  have k2 : 0 ≤ Q * y0 := Int.mul_nonneg Q0 h0
  omega
end
theorem muladdsub {U u Q Y : Int} (h0 : 0 ≤ U * 4294967296 + u - Q * Y) (h1 : U * 4294967296 + u - Q * Y < 18446744073709551616) : arI .sub .u64 (arI .add .u64 (arI .mul .u64 U 4294967296) u) (arI .mul .u64 Q Y) = U * 4294967296 + u - Q * Y := by
  show IntKind.wrap .u64 (IntKind.wrap .u64 (IntKind.wrap .u64 (U * 4294967296) + u) - IntKind.wrap .u64 (Q * Y)) = _
  rw [wrap_u, wrap_u, wrap_u, wrap_u]
  generalize U * 4294967296 = X at *
  generalize Q * Y = Z at *
  omega
theorem uar_mul {a b : Int} (h1 : 0 ≤ a * b) (h2 : a * b ≤ 18446744073709551615) : arI .mul .u64 a b = a * b := wrap_u64 h1 h2
/-- What one round of the loops looks at. -/
theorem knuth_look {y0 u q r : Int} (h0 : 0 ≤ y0) (h0' : y0 < 4294967296) (hu : 0 ≤ u) (hu' : u < 4294967296) (hq0 : 0 ≤ q) (hq : q < 4294967296) (hr : 0 ≤ r) (hr' : r < 4294967296) :
    arI .add .u64 (arI .mul .u64 4294967296 r) u = 4294967296 * r + u ∧ arI .mul .u64 q y0 = q * y0 := by
  have b := nat_mul_lt (a := q) (b := y0) (A := 4294967295) (B := 4294967295) hq0 h0 (by omega) (by omega)
  constructor
  · rw [uar_mul (a := 4294967296) (b := r) (by omega) (by omega), uar_add (by omega) (by omega)]
  · exact uar_mul (by omega) (by omega)

def b81_1 : T :=
  (.ite (.cmp .lss (.var 5) (.int 4294967296)) (.ite (.cmp .lss (.ar .add .u64 (.ar .mul .u64 (.int 4294967296) (.var 6)) (.ar .and .u64 (.ar .shl .u64 (.var 1) (.conv .u64 (.app 95 (.cons (.toI (.var 2)) .nil) 0))) (.int 4294967295))) (.ar .mul .u64 (.var 5) (.ar .and .u64 (.ar .shl .u64 (.var 2) (.conv .u64 (.app 95 (.cons (.toI (.var 2)) .nil) 0))) (.int 4294967295)))) (.ite (.cmp .lss (.ar .add .u64 (.var 6) (.ar .shr .u64 (.ar .shl .u64 (.var 2) (.conv .u64 (.app 95 (.cons (.toI (.var 2)) .nil) 0))) (.int 32))) (.int 4294967296)) (.leaf (.cont 0 [(.ar .sub .u64 (.var 5) (.int 1)), (.ar .add .u64 (.var 6) (.ar .shr .u64 (.ar .shl .u64 (.var 2) (.conv .u64 (.app 95 (.cons (.toI (.var 2)) .nil) 0))) (.int 32)))])) (.need (.c (.not (.cmp .lss (.conv .u64 (.app 95 (.cons (.toI (.var 2)) .nil) 0)) (.int 0)))) (.leaf (.res [(.toI (.ar .add .u64 (.ar .mul .u64 (.ar .sub .u64 (.var 3) (.int 1)) (.int 4294967296)) (.ar .sub .u64 (.var 5) (.int 1)))), (.toI (.ar .shr .u64 (.ar .sub .u64 (.ar .add .u64 (.ar .mul .u64 (.ar .sub .u64 (.ar .add .u64 (.ar .mul .u64 (.ar .or .u64 (.ar .shl .u64 (.var 0) (.conv .u64 (.app 95 (.cons (.toI (.var 2)) .nil) 0))) (.ar .shr .u64 (.var 1) (.ar .sub .u64 (.int 64) (.conv .u64 (.app 95 (.cons (.toI (.var 2)) .nil) 0))))) (.int 4294967296)) (.ar .shr .u64 (.ar .shl .u64 (.var 1) (.conv .u64 (.app 95 (.cons (.toI (.var 2)) .nil) 0))) (.int 32))) (.ar .mul .u64 (.ar .sub .u64 (.var 3) (.int 1)) (.ar .shl .u64 (.var 2) (.conv .u64 (.app 95 (.cons (.toI (.var 2)) .nil) 0))))) (.int 4294967296)) (.ar .and .u64 (.ar .shl .u64 (.var 1) (.conv .u64 (.app 95 (.cons (.toI (.var 2)) .nil) 0))) (.int 4294967295))) (.ar .mul .u64 (.ar .sub .u64 (.var 5) (.int 1)) (.ar .shl .u64 (.var 2) (.conv .u64 (.app 95 (.cons (.toI (.var 2)) .nil) 0))))) (.conv .u64 (.app 95 (.cons (.toI (.var 2)) .nil) 0))))])))) (.need (.c (.not (.cmp .lss (.conv .u64 (.app 95 (.cons (.toI (.var 2)) .nil) 0)) (.int 0)))) (.leaf (.res [(.toI (.ar .add .u64 (.ar .mul .u64 (.ar .sub .u64 (.var 3) (.int 1)) (.int 4294967296)) (.var 5))), (.toI (.ar .shr .u64 (.ar .sub .u64 (.ar .add .u64 (.ar .mul .u64 (.ar .sub .u64 (.ar .add .u64 (.ar .mul .u64 (.ar .or .u64 (.ar .shl .u64 (.var 0) (.conv .u64 (.app 95 (.cons (.toI (.var 2)) .nil) 0))) (.ar .shr .u64 (.var 1) (.ar .sub .u64 (.int 64) (.conv .u64 (.app 95 (.cons (.toI (.var 2)) .nil) 0))))) (.int 4294967296)) (.ar .shr .u64 (.ar .shl .u64 (.var 1) (.conv .u64 (.app 95 (.cons (.toI (.var 2)) .nil) 0))) (.int 32))) (.ar .mul .u64 (.ar .sub .u64 (.var 3) (.int 1)) (.ar .shl .u64 (.var 2) (.conv .u64 (.app 95 (.cons (.toI (.var 2)) .nil) 0))))) (.int 4294967296)) (.ar .and .u64 (.ar .shl .u64 (.var 1) (.conv .u64 (.app 95 (.cons (.toI (.var 2)) .nil) 0))) (.int 4294967295))) (.ar .mul .u64 (.var 5) (.ar .shl .u64 (.var 2) (.conv .u64 (.app 95 (.cons (.toI (.var 2)) .nil) 0))))) (.conv .u64 (.app 95 (.cons (.toI (.var 2)) .nil) 0))))])))) (.ite (.cmp .lss (.ar .add .u64 (.var 6) (.ar .shr .u64 (.ar .shl .u64 (.var 2) (.conv .u64 (.app 95 (.cons (.toI (.var 2)) .nil) 0))) (.int 32))) (.int 4294967296)) (.leaf (.cont 0 [(.ar .sub .u64 (.var 5) (.int 1)), (.ar .add .u64 (.var 6) (.ar .shr .u64 (.ar .shl .u64 (.var 2) (.conv .u64 (.app 95 (.cons (.toI (.var 2)) .nil) 0))) (.int 32)))])) (.need (.c (.not (.cmp .lss (.conv .u64 (.app 95 (.cons (.toI (.var 2)) .nil) 0)) (.int 0)))) (.leaf (.res [(.toI (.ar .add .u64 (.ar .mul .u64 (.ar .sub .u64 (.var 3) (.int 1)) (.int 4294967296)) (.ar .sub .u64 (.var 5) (.int 1)))), (.toI (.ar .shr .u64 (.ar .sub .u64 (.ar .add .u64 (.ar .mul .u64 (.ar .sub .u64 (.ar .add .u64 (.ar .mul .u64 (.ar .or .u64 (.ar .shl .u64 (.var 0) (.conv .u64 (.app 95 (.cons (.toI (.var 2)) .nil) 0))) (.ar .shr .u64 (.var 1) (.ar .sub .u64 (.int 64) (.conv .u64 (.app 95 (.cons (.toI (.var 2)) .nil) 0))))) (.int 4294967296)) (.ar .shr .u64 (.ar .shl .u64 (.var 1) (.conv .u64 (.app 95 (.cons (.toI (.var 2)) .nil) 0))) (.int 32))) (.ar .mul .u64 (.ar .sub .u64 (.var 3) (.int 1)) (.ar .shl .u64 (.var 2) (.conv .u64 (.app 95 (.cons (.toI (.var 2)) .nil) 0))))) (.int 4294967296)) (.ar .and .u64 (.ar .shl .u64 (.var 1) (.conv .u64 (.app 95 (.cons (.toI (.var 2)) .nil) 0))) (.int 4294967295))) (.ar .mul .u64 (.ar .sub .u64 (.var 5) (.int 1)) (.ar .shl .u64 (.var 2) (.conv .u64 (.app 95 (.cons (.toI (.var 2)) .nil) 0))))) (.conv .u64 (.app 95 (.cons (.toI (.var 2)) .nil) 0))))])))))
def b81_2 : T :=
  (.ite (.cmp .lss (.var 5) (.int 4294967296)) (.ite (.cmp .lss (.ar .add .u64 (.ar .mul .u64 (.int 4294967296) (.var 6)) (.ar .and .u64 (.ar .shl .u64 (.var 1) (.conv .u64 (.app 95 (.cons (.toI (.var 2)) .nil) 0))) (.int 4294967295))) (.ar .mul .u64 (.var 5) (.ar .and .u64 (.ar .shl .u64 (.var 2) (.conv .u64 (.app 95 (.cons (.toI (.var 2)) .nil) 0))) (.int 4294967295)))) (.ite (.cmp .lss (.ar .add .u64 (.var 6) (.ar .shr .u64 (.ar .shl .u64 (.var 2) (.conv .u64 (.app 95 (.cons (.toI (.var 2)) .nil) 0))) (.int 32))) (.int 4294967296)) (.leaf (.cont 0 [(.ar .sub .u64 (.var 5) (.int 1)), (.ar .add .u64 (.var 6) (.ar .shr .u64 (.ar .shl .u64 (.var 2) (.conv .u64 (.app 95 (.cons (.toI (.var 2)) .nil) 0))) (.int 32)))])) (.need (.c (.not (.cmp .lss (.conv .u64 (.app 95 (.cons (.toI (.var 2)) .nil) 0)) (.int 0)))) (.leaf (.res [(.toI (.ar .add .u64 (.ar .mul .u64 (.var 3) (.int 4294967296)) (.ar .sub .u64 (.var 5) (.int 1)))), (.toI (.ar .shr .u64 (.ar .sub .u64 (.ar .add .u64 (.ar .mul .u64 (.ar .sub .u64 (.ar .add .u64 (.ar .mul .u64 (.ar .or .u64 (.ar .shl .u64 (.var 0) (.conv .u64 (.app 95 (.cons (.toI (.var 2)) .nil) 0))) (.ar .shr .u64 (.var 1) (.ar .sub .u64 (.int 64) (.conv .u64 (.app 95 (.cons (.toI (.var 2)) .nil) 0))))) (.int 4294967296)) (.ar .shr .u64 (.ar .shl .u64 (.var 1) (.conv .u64 (.app 95 (.cons (.toI (.var 2)) .nil) 0))) (.int 32))) (.ar .mul .u64 (.var 3) (.ar .shl .u64 (.var 2) (.conv .u64 (.app 95 (.cons (.toI (.var 2)) .nil) 0))))) (.int 4294967296)) (.ar .and .u64 (.ar .shl .u64 (.var 1) (.conv .u64 (.app 95 (.cons (.toI (.var 2)) .nil) 0))) (.int 4294967295))) (.ar .mul .u64 (.ar .sub .u64 (.var 5) (.int 1)) (.ar .shl .u64 (.var 2) (.conv .u64 (.app 95 (.cons (.toI (.var 2)) .nil) 0))))) (.conv .u64 (.app 95 (.cons (.toI (.var 2)) .nil) 0))))])))) (.need (.c (.not (.cmp .lss (.conv .u64 (.app 95 (.cons (.toI (.var 2)) .nil) 0)) (.int 0)))) (.leaf (.res [(.toI (.ar .add .u64 (.ar .mul .u64 (.var 3) (.int 4294967296)) (.var 5))), (.toI (.ar .shr .u64 (.ar .sub .u64 (.ar .add .u64 (.ar .mul .u64 (.ar .sub .u64 (.ar .add .u64 (.ar .mul .u64 (.ar .or .u64 (.ar .shl .u64 (.var 0) (.conv .u64 (.app 95 (.cons (.toI (.var 2)) .nil) 0))) (.ar .shr .u64 (.var 1) (.ar .sub .u64 (.int 64) (.conv .u64 (.app 95 (.cons (.toI (.var 2)) .nil) 0))))) (.int 4294967296)) (.ar .shr .u64 (.ar .shl .u64 (.var 1) (.conv .u64 (.app 95 (.cons (.toI (.var 2)) .nil) 0))) (.int 32))) (.ar .mul .u64 (.var 3) (.ar .shl .u64 (.var 2) (.conv .u64 (.app 95 (.cons (.toI (.var 2)) .nil) 0))))) (.int 4294967296)) (.ar .and .u64 (.ar .shl .u64 (.var 1) (.conv .u64 (.app 95 (.cons (.toI (.var 2)) .nil) 0))) (.int 4294967295))) (.ar .mul .u64 (.var 5) (.ar .shl .u64 (.var 2) (.conv .u64 (.app 95 (.cons (.toI (.var 2)) .nil) 0))))) (.conv .u64 (.app 95 (.cons (.toI (.var 2)) .nil) 0))))])))) (.ite (.cmp .lss (.ar .add .u64 (.var 6) (.ar .shr .u64 (.ar .shl .u64 (.var 2) (.conv .u64 (.app 95 (.cons (.toI (.var 2)) .nil) 0))) (.int 32))) (.int 4294967296)) (.leaf (.cont 0 [(.ar .sub .u64 (.var 5) (.int 1)), (.ar .add .u64 (.var 6) (.ar .shr .u64 (.ar .shl .u64 (.var 2) (.conv .u64 (.app 95 (.cons (.toI (.var 2)) .nil) 0))) (.int 32)))])) (.need (.c (.not (.cmp .lss (.conv .u64 (.app 95 (.cons (.toI (.var 2)) .nil) 0)) (.int 0)))) (.leaf (.res [(.toI (.ar .add .u64 (.ar .mul .u64 (.var 3) (.int 4294967296)) (.ar .sub .u64 (.var 5) (.int 1)))), (.toI (.ar .shr .u64 (.ar .sub .u64 (.ar .add .u64 (.ar .mul .u64 (.ar .sub .u64 (.ar .add .u64 (.ar .mul .u64 (.ar .or .u64 (.ar .shl .u64 (.var 0) (.conv .u64 (.app 95 (.cons (.toI (.var 2)) .nil) 0))) (.ar .shr .u64 (.var 1) (.ar .sub .u64 (.int 64) (.conv .u64 (.app 95 (.cons (.toI (.var 2)) .nil) 0))))) (.int 4294967296)) (.ar .shr .u64 (.ar .shl .u64 (.var 1) (.conv .u64 (.app 95 (.cons (.toI (.var 2)) .nil) 0))) (.int 32))) (.ar .mul .u64 (.var 3) (.ar .shl .u64 (.var 2) (.conv .u64 (.app 95 (.cons (.toI (.var 2)) .nil) 0))))) (.int 4294967296)) (.ar .and .u64 (.ar .shl .u64 (.var 1) (.conv .u64 (.app 95 (.cons (.toI (.var 2)) .nil) 0))) (.int 4294967295))) (.ar .mul .u64 (.ar .sub .u64 (.var 5) (.int 1)) (.ar .shl .u64 (.var 2) (.conv .u64 (.app 95 (.cons (.toI (.var 2)) .nil) 0))))) (.conv .u64 (.app 95 (.cons (.toI (.var 2)) .nil) 0))))])))))
def b81 : T :=
  (.ite (.cmp .lss (.var 3) (.int 4294967296)) (.ite (.cmp .lss (.ar .add .u64 (.ar .mul .u64 (.int 4294967296) (.var 4)) (.ar .shr .u64 (.ar .shl .u64 (.var 1) (.conv .u64 (.app 95 (.cons (.toI (.var 2)) .nil) 0))) (.int 32))) (.ar .mul .u64 (.var 3) (.ar .and .u64 (.ar .shl .u64 (.var 2) (.conv .u64 (.app 95 (.cons (.toI (.var 2)) .nil) 0))) (.int 4294967295)))) (.ite (.cmp .lss (.ar .add .u64 (.var 4) (.ar .shr .u64 (.ar .shl .u64 (.var 2) (.conv .u64 (.app 95 (.cons (.toI (.var 2)) .nil) 0))) (.int 32))) (.int 4294967296)) (.leaf (.cont 0 [(.ar .sub .u64 (.var 3) (.int 1)), (.ar .add .u64 (.var 4) (.ar .shr .u64 (.ar .shl .u64 (.var 2) (.conv .u64 (.app 95 (.cons (.toI (.var 2)) .nil) 0))) (.int 32)))])) (.need (.c (.not (.cmp .eql (.ar .shr .u64 (.ar .shl .u64 (.var 2) (.conv .u64 (.app 95 (.cons (.toI (.var 2)) .nil) 0))) (.int 32)) (.int 0)))) (.loop [(.ar .quo .u64 (.ar .sub .u64 (.ar .add .u64 (.ar .mul .u64 (.ar .or .u64 (.ar .shl .u64 (.var 0) (.conv .u64 (.app 95 (.cons (.toI (.var 2)) .nil) 0))) (.ar .shr .u64 (.var 1) (.ar .sub .u64 (.int 64) (.conv .u64 (.app 95 (.cons (.toI (.var 2)) .nil) 0))))) (.int 4294967296)) (.ar .shr .u64 (.ar .shl .u64 (.var 1) (.conv .u64 (.app 95 (.cons (.toI (.var 2)) .nil) 0))) (.int 32))) (.ar .mul .u64 (.ar .sub .u64 (.var 3) (.int 1)) (.ar .shl .u64 (.var 2) (.conv .u64 (.app 95 (.cons (.toI (.var 2)) .nil) 0))))) (.ar .shr .u64 (.ar .shl .u64 (.var 2) (.conv .u64 (.app 95 (.cons (.toI (.var 2)) .nil) 0))) (.int 32))), (.ar .sub .u64 (.ar .sub .u64 (.ar .add .u64 (.ar .mul .u64 (.ar .or .u64 (.ar .shl .u64 (.var 0) (.conv .u64 (.app 95 (.cons (.toI (.var 2)) .nil) 0))) (.ar .shr .u64 (.var 1) (.ar .sub .u64 (.int 64) (.conv .u64 (.app 95 (.cons (.toI (.var 2)) .nil) 0))))) (.int 4294967296)) (.ar .shr .u64 (.ar .shl .u64 (.var 1) (.conv .u64 (.app 95 (.cons (.toI (.var 2)) .nil) 0))) (.int 32))) (.ar .mul .u64 (.ar .sub .u64 (.var 3) (.int 1)) (.ar .shl .u64 (.var 2) (.conv .u64 (.app 95 (.cons (.toI (.var 2)) .nil) 0))))) (.ar .mul .u64 (.ar .quo .u64 (.ar .sub .u64 (.ar .add .u64 (.ar .mul .u64 (.ar .or .u64 (.ar .shl .u64 (.var 0) (.conv .u64 (.app 95 (.cons (.toI (.var 2)) .nil) 0))) (.ar .shr .u64 (.var 1) (.ar .sub .u64 (.int 64) (.conv .u64 (.app 95 (.cons (.toI (.var 2)) .nil) 0))))) (.int 4294967296)) (.ar .shr .u64 (.ar .shl .u64 (.var 1) (.conv .u64 (.app 95 (.cons (.toI (.var 2)) .nil) 0))) (.int 32))) (.ar .mul .u64 (.ar .sub .u64 (.var 3) (.int 1)) (.ar .shl .u64 (.var 2) (.conv .u64 (.app 95 (.cons (.toI (.var 2)) .nil) 0))))) (.ar .shr .u64 (.ar .shl .u64 (.var 2) (.conv .u64 (.app 95 (.cons (.toI (.var 2)) .nil) 0))) (.int 32))) (.ar .shr .u64 (.ar .shl .u64 (.var 2) (.conv .u64 (.app 95 (.cons (.toI (.var 2)) .nil) 0))) (.int 32))))] b81_1))) (.need (.c (.not (.cmp .eql (.ar .shr .u64 (.ar .shl .u64 (.var 2) (.conv .u64 (.app 95 (.cons (.toI (.var 2)) .nil) 0))) (.int 32)) (.int 0)))) (.loop [(.ar .quo .u64 (.ar .sub .u64 (.ar .add .u64 (.ar .mul .u64 (.ar .or .u64 (.ar .shl .u64 (.var 0) (.conv .u64 (.app 95 (.cons (.toI (.var 2)) .nil) 0))) (.ar .shr .u64 (.var 1) (.ar .sub .u64 (.int 64) (.conv .u64 (.app 95 (.cons (.toI (.var 2)) .nil) 0))))) (.int 4294967296)) (.ar .shr .u64 (.ar .shl .u64 (.var 1) (.conv .u64 (.app 95 (.cons (.toI (.var 2)) .nil) 0))) (.int 32))) (.ar .mul .u64 (.var 3) (.ar .shl .u64 (.var 2) (.conv .u64 (.app 95 (.cons (.toI (.var 2)) .nil) 0))))) (.ar .shr .u64 (.ar .shl .u64 (.var 2) (.conv .u64 (.app 95 (.cons (.toI (.var 2)) .nil) 0))) (.int 32))), (.ar .sub .u64 (.ar .sub .u64 (.ar .add .u64 (.ar .mul .u64 (.ar .or .u64 (.ar .shl .u64 (.var 0) (.conv .u64 (.app 95 (.cons (.toI (.var 2)) .nil) 0))) (.ar .shr .u64 (.var 1) (.ar .sub .u64 (.int 64) (.conv .u64 (.app 95 (.cons (.toI (.var 2)) .nil) 0))))) (.int 4294967296)) (.ar .shr .u64 (.ar .shl .u64 (.var 1) (.conv .u64 (.app 95 (.cons (.toI (.var 2)) .nil) 0))) (.int 32))) (.ar .mul .u64 (.var 3) (.ar .shl .u64 (.var 2) (.conv .u64 (.app 95 (.cons (.toI (.var 2)) .nil) 0))))) (.ar .mul .u64 (.ar .quo .u64 (.ar .sub .u64 (.ar .add .u64 (.ar .mul .u64 (.ar .or .u64 (.ar .shl .u64 (.var 0) (.conv .u64 (.app 95 (.cons (.toI (.var 2)) .nil) 0))) (.ar .shr .u64 (.var 1) (.ar .sub .u64 (.int 64) (.conv .u64 (.app 95 (.cons (.toI (.var 2)) .nil) 0))))) (.int 4294967296)) (.ar .shr .u64 (.ar .shl .u64 (.var 1) (.conv .u64 (.app 95 (.cons (.toI (.var 2)) .nil) 0))) (.int 32))) (.ar .mul .u64 (.var 3) (.ar .shl .u64 (.var 2) (.conv .u64 (.app 95 (.cons (.toI (.var 2)) .nil) 0))))) (.ar .shr .u64 (.ar .shl .u64 (.var 2) (.conv .u64 (.app 95 (.cons (.toI (.var 2)) .nil) 0))) (.int 32))) (.ar .shr .u64 (.ar .shl .u64 (.var 2) (.conv .u64 (.app 95 (.cons (.toI (.var 2)) .nil) 0))) (.int 32))))] b81_2))) (.ite (.cmp .lss (.ar .add .u64 (.var 4) (.ar .shr .u64 (.ar .shl .u64 (.var 2) (.conv .u64 (.app 95 (.cons (.toI (.var 2)) .nil) 0))) (.int 32))) (.int 4294967296)) (.leaf (.cont 0 [(.ar .sub .u64 (.var 3) (.int 1)), (.ar .add .u64 (.var 4) (.ar .shr .u64 (.ar .shl .u64 (.var 2) (.conv .u64 (.app 95 (.cons (.toI (.var 2)) .nil) 0))) (.int 32)))])) (.need (.c (.not (.cmp .eql (.ar .shr .u64 (.ar .shl .u64 (.var 2) (.conv .u64 (.app 95 (.cons (.toI (.var 2)) .nil) 0))) (.int 32)) (.int 0)))) (.loop [(.ar .quo .u64 (.ar .sub .u64 (.ar .add .u64 (.ar .mul .u64 (.ar .or .u64 (.ar .shl .u64 (.var 0) (.conv .u64 (.app 95 (.cons (.toI (.var 2)) .nil) 0))) (.ar .shr .u64 (.var 1) (.ar .sub .u64 (.int 64) (.conv .u64 (.app 95 (.cons (.toI (.var 2)) .nil) 0))))) (.int 4294967296)) (.ar .shr .u64 (.ar .shl .u64 (.var 1) (.conv .u64 (.app 95 (.cons (.toI (.var 2)) .nil) 0))) (.int 32))) (.ar .mul .u64 (.ar .sub .u64 (.var 3) (.int 1)) (.ar .shl .u64 (.var 2) (.conv .u64 (.app 95 (.cons (.toI (.var 2)) .nil) 0))))) (.ar .shr .u64 (.ar .shl .u64 (.var 2) (.conv .u64 (.app 95 (.cons (.toI (.var 2)) .nil) 0))) (.int 32))), (.ar .sub .u64 (.ar .sub .u64 (.ar .add .u64 (.ar .mul .u64 (.ar .or .u64 (.ar .shl .u64 (.var 0) (.conv .u64 (.app 95 (.cons (.toI (.var 2)) .nil) 0))) (.ar .shr .u64 (.var 1) (.ar .sub .u64 (.int 64) (.conv .u64 (.app 95 (.cons (.toI (.var 2)) .nil) 0))))) (.int 4294967296)) (.ar .shr .u64 (.ar .shl .u64 (.var 1) (.conv .u64 (.app 95 (.cons (.toI (.var 2)) .nil) 0))) (.int 32))) (.ar .mul .u64 (.ar .sub .u64 (.var 3) (.int 1)) (.ar .shl .u64 (.var 2) (.conv .u64 (.app 95 (.cons (.toI (.var 2)) .nil) 0))))) (.ar .mul .u64 (.ar .quo .u64 (.ar .sub .u64 (.ar .add .u64 (.ar .mul .u64 (.ar .or .u64 (.ar .shl .u64 (.var 0) (.conv .u64 (.app 95 (.cons (.toI (.var 2)) .nil) 0))) (.ar .shr .u64 (.var 1) (.ar .sub .u64 (.int 64) (.conv .u64 (.app 95 (.cons (.toI (.var 2)) .nil) 0))))) (.int 4294967296)) (.ar .shr .u64 (.ar .shl .u64 (.var 1) (.conv .u64 (.app 95 (.cons (.toI (.var 2)) .nil) 0))) (.int 32))) (.ar .mul .u64 (.ar .sub .u64 (.var 3) (.int 1)) (.ar .shl .u64 (.var 2) (.conv .u64 (.app 95 (.cons (.toI (.var 2)) .nil) 0))))) (.ar .shr .u64 (.ar .shl .u64 (.var 2) (.conv .u64 (.app 95 (.cons (.toI (.var 2)) .nil) 0))) (.int 32))) (.ar .shr .u64 (.ar .shl .u64 (.var 2) (.conv .u64 (.app 95 (.cons (.toI (.var 2)) .nil) 0))) (.int 32))))] b81_1))))
theorem t81l : fnT (cfgOf Tryd.prog sigs [95] [39, 74, 83, 84] (fun f r => if f = 81 then (if r = 17 then some ⟨[(15, (.int .u64)), (16, (.int .u64))], []⟩ else if r = 24 then some ⟨[(18, (.int .u64)), (16, (.int .u64))], []⟩ else none) else none)) 81 Tryd.f81 (bodyOf Tryd.f81) ⟨[(.one (.int .u64)), (.one (.int .u64)), (.one (.int .u64))], [(.one (.int .u64)), (.one (.int .u64))], none, none, none⟩ 100 =
  (.ite (.cmp .eql (.var 2) (.int 0)) .bad (.ite (.cmp .lss (.var 0) (.var 2)) (.ite (.cmp .eql (.var 0) (.int 0)) (.leaf (.res [(.toI (.ar .quo .u64 (.var 1) (.var 2))), (.toI (.ar .rem .u64 (.var 1) (.var 2)))])) (.need (.pre 95 (.cons (.toI (.var 2)) .nil)) (.need (.c (.not (.cmp .lss (.conv .u64 (.app 95 (.cons (.toI (.var 2)) .nil) 0)) (.int 0)))) (.need (.c (.not (.cmp .lss (.conv .u64 (.app 95 (.cons (.toI (.var 2)) .nil) 0)) (.int 0)))) (.need (.c (.not (.cmp .lss (.ar .sub .u64 (.int 64) (.conv .u64 (.app 95 (.cons (.toI (.var 2)) .nil) 0))) (.int 0)))) (.need (.c (.not (.cmp .lss (.conv .u64 (.app 95 (.cons (.toI (.var 2)) .nil) 0)) (.int 0)))) (.need (.c (.not (.cmp .eql (.ar .shr .u64 (.ar .shl .u64 (.var 2) (.conv .u64 (.app 95 (.cons (.toI (.var 2)) .nil) 0))) (.int 32)) (.int 0)))) (.loop [(.ar .quo .u64 (.ar .or .u64 (.ar .shl .u64 (.var 0) (.conv .u64 (.app 95 (.cons (.toI (.var 2)) .nil) 0))) (.ar .shr .u64 (.var 1) (.ar .sub .u64 (.int 64) (.conv .u64 (.app 95 (.cons (.toI (.var 2)) .nil) 0))))) (.ar .shr .u64 (.ar .shl .u64 (.var 2) (.conv .u64 (.app 95 (.cons (.toI (.var 2)) .nil) 0))) (.int 32))), (.ar .sub .u64 (.ar .or .u64 (.ar .shl .u64 (.var 0) (.conv .u64 (.app 95 (.cons (.toI (.var 2)) .nil) 0))) (.ar .shr .u64 (.var 1) (.ar .sub .u64 (.int 64) (.conv .u64 (.app 95 (.cons (.toI (.var 2)) .nil) 0))))) (.ar .mul .u64 (.ar .quo .u64 (.ar .or .u64 (.ar .shl .u64 (.var 0) (.conv .u64 (.app 95 (.cons (.toI (.var 2)) .nil) 0))) (.ar .shr .u64 (.var 1) (.ar .sub .u64 (.int 64) (.conv .u64 (.app 95 (.cons (.toI (.var 2)) .nil) 0))))) (.ar .shr .u64 (.ar .shl .u64 (.var 2) (.conv .u64 (.app 95 (.cons (.toI (.var 2)) .nil) 0))) (.int 32))) (.ar .shr .u64 (.ar .shl .u64 (.var 2) (.conv .u64 (.app 95 (.cons (.toI (.var 2)) .nil) 0))) (.int 32))))] b81)))))))) .bad)) := by kernel_rfl
theorem b81_1h (a : Int) (b : Int) (d : Int) (q : Int) (r : Int) (q2 : Int) (r2 : Int) (it0 : List Sc → Prop) (it1 : List Sc → Prop) (Q : List Sc → Prop) : b81_1.holds Φ [.int a, .int b, .int d, .int q, .int r, .int q2, .int r2] (loopQ it1 Φ (loopQ it0 Φ (resQ Φ Q))) =
  (cond (cmpI .lss q2 4294967296)
   (cond (cmpI .lss (arI .add .u64 (arI .mul .u64 4294967296 r2) (arI .and .u64 (arI .shl .u64 b (IntKind.wrap .u64 (lz0 d))) 4294967295)) (arI .mul .u64 q2 (arI .and .u64 (arI .shl .u64 d (IntKind.wrap .u64 (lz0 d))) 4294967295)))
    (cond (cmpI .lss (arI .add .u64 r2 (arI .shr .u64 (arI .shl .u64 d (IntKind.wrap .u64 (lz0 d))) 32)) 4294967296)
     (it1 [.int (arI .sub .u64 q2 1), .int (arI .add .u64 r2 (arI .shr .u64 (arI .shl .u64 d (IntKind.wrap .u64 (lz0 d))) 32))])
     (cond (!(cmpI .lss (IntKind.wrap .u64 (lz0 d)) 0))
     (Q [.int (arI .add .u64 (arI .mul .u64 (arI .sub .u64 q 1) 4294967296) (arI .sub .u64 q2 1)), .int (arI .shr .u64 (arI .sub .u64 (arI .add .u64 (arI .mul .u64 (arI .sub .u64 (arI .add .u64 (arI .mul .u64 (arI .or .u64 (arI .shl .u64 a (IntKind.wrap .u64 (lz0 d))) (arI .shr .u64 b (arI .sub .u64 64 (IntKind.wrap .u64 (lz0 d))))) 4294967296) (arI .shr .u64 (arI .shl .u64 b (IntKind.wrap .u64 (lz0 d))) 32)) (arI .mul .u64 (arI .sub .u64 q 1) (arI .shl .u64 d (IntKind.wrap .u64 (lz0 d))))) 4294967296) (arI .and .u64 (arI .shl .u64 b (IntKind.wrap .u64 (lz0 d))) 4294967295)) (arI .mul .u64 (arI .sub .u64 q2 1) (arI .shl .u64 d (IntKind.wrap .u64 (lz0 d))))) (IntKind.wrap .u64 (lz0 d)))])
     False))
    (cond (!(cmpI .lss (IntKind.wrap .u64 (lz0 d)) 0))
    (Q [.int (arI .add .u64 (arI .mul .u64 (arI .sub .u64 q 1) 4294967296) q2), .int (arI .shr .u64 (arI .sub .u64 (arI .add .u64 (arI .mul .u64 (arI .sub .u64 (arI .add .u64 (arI .mul .u64 (arI .or .u64 (arI .shl .u64 a (IntKind.wrap .u64 (lz0 d))) (arI .shr .u64 b (arI .sub .u64 64 (IntKind.wrap .u64 (lz0 d))))) 4294967296) (arI .shr .u64 (arI .shl .u64 b (IntKind.wrap .u64 (lz0 d))) 32)) (arI .mul .u64 (arI .sub .u64 q 1) (arI .shl .u64 d (IntKind.wrap .u64 (lz0 d))))) 4294967296) (arI .and .u64 (arI .shl .u64 b (IntKind.wrap .u64 (lz0 d))) 4294967295)) (arI .mul .u64 q2 (arI .shl .u64 d (IntKind.wrap .u64 (lz0 d))))) (IntKind.wrap .u64 (lz0 d)))])
    False))
   (cond (cmpI .lss (arI .add .u64 r2 (arI .shr .u64 (arI .shl .u64 d (IntKind.wrap .u64 (lz0 d))) 32)) 4294967296)
    (it1 [.int (arI .sub .u64 q2 1), .int (arI .add .u64 r2 (arI .shr .u64 (arI .shl .u64 d (IntKind.wrap .u64 (lz0 d))) 32))])
    (cond (!(cmpI .lss (IntKind.wrap .u64 (lz0 d)) 0))
    (Q [.int (arI .add .u64 (arI .mul .u64 (arI .sub .u64 q 1) 4294967296) (arI .sub .u64 q2 1)), .int (arI .shr .u64 (arI .sub .u64 (arI .add .u64 (arI .mul .u64 (arI .sub .u64 (arI .add .u64 (arI .mul .u64 (arI .or .u64 (arI .shl .u64 a (IntKind.wrap .u64 (lz0 d))) (arI .shr .u64 b (arI .sub .u64 64 (IntKind.wrap .u64 (lz0 d))))) 4294967296) (arI .shr .u64 (arI .shl .u64 b (IntKind.wrap .u64 (lz0 d))) 32)) (arI .mul .u64 (arI .sub .u64 q 1) (arI .shl .u64 d (IntKind.wrap .u64 (lz0 d))))) 4294967296) (arI .and .u64 (arI .shl .u64 b (IntKind.wrap .u64 (lz0 d))) 4294967295)) (arI .mul .u64 (arI .sub .u64 q2 1) (arI .shl .u64 d (IntKind.wrap .u64 (lz0 d))))) (IntKind.wrap .u64 (lz0 d)))])
    False))) := by kernel_rfl
theorem b81_2h (a : Int) (b : Int) (d : Int) (q : Int) (r : Int) (q2 : Int) (r2 : Int) (it0 : List Sc → Prop) (it1 : List Sc → Prop) (Q : List Sc → Prop) : b81_2.holds Φ [.int a, .int b, .int d, .int q, .int r, .int q2, .int r2] (loopQ it1 Φ (loopQ it0 Φ (resQ Φ Q))) =
  (cond (cmpI .lss q2 4294967296)
   (cond (cmpI .lss (arI .add .u64 (arI .mul .u64 4294967296 r2) (arI .and .u64 (arI .shl .u64 b (IntKind.wrap .u64 (lz0 d))) 4294967295)) (arI .mul .u64 q2 (arI .and .u64 (arI .shl .u64 d (IntKind.wrap .u64 (lz0 d))) 4294967295)))
    (cond (cmpI .lss (arI .add .u64 r2 (arI .shr .u64 (arI .shl .u64 d (IntKind.wrap .u64 (lz0 d))) 32)) 4294967296)
     (it1 [.int (arI .sub .u64 q2 1), .int (arI .add .u64 r2 (arI .shr .u64 (arI .shl .u64 d (IntKind.wrap .u64 (lz0 d))) 32))])
     (cond (!(cmpI .lss (IntKind.wrap .u64 (lz0 d)) 0))
     (Q [.int (arI .add .u64 (arI .mul .u64 q 4294967296) (arI .sub .u64 q2 1)), .int (arI .shr .u64 (arI .sub .u64 (arI .add .u64 (arI .mul .u64 (arI .sub .u64 (arI .add .u64 (arI .mul .u64 (arI .or .u64 (arI .shl .u64 a (IntKind.wrap .u64 (lz0 d))) (arI .shr .u64 b (arI .sub .u64 64 (IntKind.wrap .u64 (lz0 d))))) 4294967296) (arI .shr .u64 (arI .shl .u64 b (IntKind.wrap .u64 (lz0 d))) 32)) (arI .mul .u64 q (arI .shl .u64 d (IntKind.wrap .u64 (lz0 d))))) 4294967296) (arI .and .u64 (arI .shl .u64 b (IntKind.wrap .u64 (lz0 d))) 4294967295)) (arI .mul .u64 (arI .sub .u64 q2 1) (arI .shl .u64 d (IntKind.wrap .u64 (lz0 d))))) (IntKind.wrap .u64 (lz0 d)))])
     False))
    (cond (!(cmpI .lss (IntKind.wrap .u64 (lz0 d)) 0))
    (Q [.int (arI .add .u64 (arI .mul .u64 q 4294967296) q2), .int (arI .shr .u64 (arI .sub .u64 (arI .add .u64 (arI .mul .u64 (arI .sub .u64 (arI .add .u64 (arI .mul .u64 (arI .or .u64 (arI .shl .u64 a (IntKind.wrap .u64 (lz0 d))) (arI .shr .u64 b (arI .sub .u64 64 (IntKind.wrap .u64 (lz0 d))))) 4294967296) (arI .shr .u64 (arI .shl .u64 b (IntKind.wrap .u64 (lz0 d))) 32)) (arI .mul .u64 q (arI .shl .u64 d (IntKind.wrap .u64 (lz0 d))))) 4294967296) (arI .and .u64 (arI .shl .u64 b (IntKind.wrap .u64 (lz0 d))) 4294967295)) (arI .mul .u64 q2 (arI .shl .u64 d (IntKind.wrap .u64 (lz0 d))))) (IntKind.wrap .u64 (lz0 d)))])
    False))
   (cond (cmpI .lss (arI .add .u64 r2 (arI .shr .u64 (arI .shl .u64 d (IntKind.wrap .u64 (lz0 d))) 32)) 4294967296)
    (it1 [.int (arI .sub .u64 q2 1), .int (arI .add .u64 r2 (arI .shr .u64 (arI .shl .u64 d (IntKind.wrap .u64 (lz0 d))) 32))])
    (cond (!(cmpI .lss (IntKind.wrap .u64 (lz0 d)) 0))
    (Q [.int (arI .add .u64 (arI .mul .u64 q 4294967296) (arI .sub .u64 q2 1)), .int (arI .shr .u64 (arI .sub .u64 (arI .add .u64 (arI .mul .u64 (arI .sub .u64 (arI .add .u64 (arI .mul .u64 (arI .or .u64 (arI .shl .u64 a (IntKind.wrap .u64 (lz0 d))) (arI .shr .u64 b (arI .sub .u64 64 (IntKind.wrap .u64 (lz0 d))))) 4294967296) (arI .shr .u64 (arI .shl .u64 b (IntKind.wrap .u64 (lz0 d))) 32)) (arI .mul .u64 q (arI .shl .u64 d (IntKind.wrap .u64 (lz0 d))))) 4294967296) (arI .and .u64 (arI .shl .u64 b (IntKind.wrap .u64 (lz0 d))) 4294967295)) (arI .mul .u64 (arI .sub .u64 q2 1) (arI .shl .u64 d (IntKind.wrap .u64 (lz0 d))))) (IntKind.wrap .u64 (lz0 d)))])
    False))) := by kernel_rfl
theorem b81h (a : Int) (b : Int) (d : Int) (q : Int) (r : Int) (it0 : List Sc → Prop) (Q : List Sc → Prop) : b81.holds Φ [.int a, .int b, .int d, .int q, .int r] (loopQ it0 Φ (resQ Φ Q)) =
  (cond (cmpI .lss q 4294967296)
   (cond (cmpI .lss (arI .add .u64 (arI .mul .u64 4294967296 r) (arI .shr .u64 (arI .shl .u64 b (IntKind.wrap .u64 (lz0 d))) 32)) (arI .mul .u64 q (arI .and .u64 (arI .shl .u64 d (IntKind.wrap .u64 (lz0 d))) 4294967295)))
    (cond (cmpI .lss (arI .add .u64 r (arI .shr .u64 (arI .shl .u64 d (IntKind.wrap .u64 (lz0 d))) 32)) 4294967296)
     (it0 [.int (arI .sub .u64 q 1), .int (arI .add .u64 r (arI .shr .u64 (arI .shl .u64 d (IntKind.wrap .u64 (lz0 d))) 32))])
     (cond (!(cmpI .eql (arI .shr .u64 (arI .shl .u64 d (IntKind.wrap .u64 (lz0 d))) 32) 0))
     (∃ n₀, iterH (fun ρ' Q' => b81_1.holds Φ ρ' Q') Φ [.int a, .int b, .int d, .int q, .int r] (loopQ it0 Φ (resQ Φ Q)) n₀ [.int (arI .quo .u64 (arI .sub .u64 (arI .add .u64 (arI .mul .u64 (arI .or .u64 (arI .shl .u64 a (IntKind.wrap .u64 (lz0 d))) (arI .shr .u64 b (arI .sub .u64 64 (IntKind.wrap .u64 (lz0 d))))) 4294967296) (arI .shr .u64 (arI .shl .u64 b (IntKind.wrap .u64 (lz0 d))) 32)) (arI .mul .u64 (arI .sub .u64 q 1) (arI .shl .u64 d (IntKind.wrap .u64 (lz0 d))))) (arI .shr .u64 (arI .shl .u64 d (IntKind.wrap .u64 (lz0 d))) 32)), .int (arI .sub .u64 (arI .sub .u64 (arI .add .u64 (arI .mul .u64 (arI .or .u64 (arI .shl .u64 a (IntKind.wrap .u64 (lz0 d))) (arI .shr .u64 b (arI .sub .u64 64 (IntKind.wrap .u64 (lz0 d))))) 4294967296) (arI .shr .u64 (arI .shl .u64 b (IntKind.wrap .u64 (lz0 d))) 32)) (arI .mul .u64 (arI .sub .u64 q 1) (arI .shl .u64 d (IntKind.wrap .u64 (lz0 d))))) (arI .mul .u64 (arI .quo .u64 (arI .sub .u64 (arI .add .u64 (arI .mul .u64 (arI .or .u64 (arI .shl .u64 a (IntKind.wrap .u64 (lz0 d))) (arI .shr .u64 b (arI .sub .u64 64 (IntKind.wrap .u64 (lz0 d))))) 4294967296) (arI .shr .u64 (arI .shl .u64 b (IntKind.wrap .u64 (lz0 d))) 32)) (arI .mul .u64 (arI .sub .u64 q 1) (arI .shl .u64 d (IntKind.wrap .u64 (lz0 d))))) (arI .shr .u64 (arI .shl .u64 d (IntKind.wrap .u64 (lz0 d))) 32)) (arI .shr .u64 (arI .shl .u64 d (IntKind.wrap .u64 (lz0 d))) 32)))])
     False))
    (cond (!(cmpI .eql (arI .shr .u64 (arI .shl .u64 d (IntKind.wrap .u64 (lz0 d))) 32) 0))
    (∃ n₀, iterH (fun ρ' Q' => b81_2.holds Φ ρ' Q') Φ [.int a, .int b, .int d, .int q, .int r] (loopQ it0 Φ (resQ Φ Q)) n₀ [.int (arI .quo .u64 (arI .sub .u64 (arI .add .u64 (arI .mul .u64 (arI .or .u64 (arI .shl .u64 a (IntKind.wrap .u64 (lz0 d))) (arI .shr .u64 b (arI .sub .u64 64 (IntKind.wrap .u64 (lz0 d))))) 4294967296) (arI .shr .u64 (arI .shl .u64 b (IntKind.wrap .u64 (lz0 d))) 32)) (arI .mul .u64 q (arI .shl .u64 d (IntKind.wrap .u64 (lz0 d))))) (arI .shr .u64 (arI .shl .u64 d (IntKind.wrap .u64 (lz0 d))) 32)), .int (arI .sub .u64 (arI .sub .u64 (arI .add .u64 (arI .mul .u64 (arI .or .u64 (arI .shl .u64 a (IntKind.wrap .u64 (lz0 d))) (arI .shr .u64 b (arI .sub .u64 64 (IntKind.wrap .u64 (lz0 d))))) 4294967296) (arI .shr .u64 (arI .shl .u64 b (IntKind.wrap .u64 (lz0 d))) 32)) (arI .mul .u64 q (arI .shl .u64 d (IntKind.wrap .u64 (lz0 d))))) (arI .mul .u64 (arI .quo .u64 (arI .sub .u64 (arI .add .u64 (arI .mul .u64 (arI .or .u64 (arI .shl .u64 a (IntKind.wrap .u64 (lz0 d))) (arI .shr .u64 b (arI .sub .u64 64 (IntKind.wrap .u64 (lz0 d))))) 4294967296) (arI .shr .u64 (arI .shl .u64 b (IntKind.wrap .u64 (lz0 d))) 32)) (arI .mul .u64 q (arI .shl .u64 d (IntKind.wrap .u64 (lz0 d))))) (arI .shr .u64 (arI .shl .u64 d (IntKind.wrap .u64 (lz0 d))) 32)) (arI .shr .u64 (arI .shl .u64 d (IntKind.wrap .u64 (lz0 d))) 32)))])
    False))
   (cond (cmpI .lss (arI .add .u64 r (arI .shr .u64 (arI .shl .u64 d (IntKind.wrap .u64 (lz0 d))) 32)) 4294967296)
    (it0 [.int (arI .sub .u64 q 1), .int (arI .add .u64 r (arI .shr .u64 (arI .shl .u64 d (IntKind.wrap .u64 (lz0 d))) 32))])
    (cond (!(cmpI .eql (arI .shr .u64 (arI .shl .u64 d (IntKind.wrap .u64 (lz0 d))) 32) 0))
    (∃ n₀, iterH (fun ρ' Q' => b81_1.holds Φ ρ' Q') Φ [.int a, .int b, .int d, .int q, .int r] (loopQ it0 Φ (resQ Φ Q)) n₀ [.int (arI .quo .u64 (arI .sub .u64 (arI .add .u64 (arI .mul .u64 (arI .or .u64 (arI .shl .u64 a (IntKind.wrap .u64 (lz0 d))) (arI .shr .u64 b (arI .sub .u64 64 (IntKind.wrap .u64 (lz0 d))))) 4294967296) (arI .shr .u64 (arI .shl .u64 b (IntKind.wrap .u64 (lz0 d))) 32)) (arI .mul .u64 (arI .sub .u64 q 1) (arI .shl .u64 d (IntKind.wrap .u64 (lz0 d))))) (arI .shr .u64 (arI .shl .u64 d (IntKind.wrap .u64 (lz0 d))) 32)), .int (arI .sub .u64 (arI .sub .u64 (arI .add .u64 (arI .mul .u64 (arI .or .u64 (arI .shl .u64 a (IntKind.wrap .u64 (lz0 d))) (arI .shr .u64 b (arI .sub .u64 64 (IntKind.wrap .u64 (lz0 d))))) 4294967296) (arI .shr .u64 (arI .shl .u64 b (IntKind.wrap .u64 (lz0 d))) 32)) (arI .mul .u64 (arI .sub .u64 q 1) (arI .shl .u64 d (IntKind.wrap .u64 (lz0 d))))) (arI .mul .u64 (arI .quo .u64 (arI .sub .u64 (arI .add .u64 (arI .mul .u64 (arI .or .u64 (arI .shl .u64 a (IntKind.wrap .u64 (lz0 d))) (arI .shr .u64 b (arI .sub .u64 64 (IntKind.wrap .u64 (lz0 d))))) 4294967296) (arI .shr .u64 (arI .shl .u64 b (IntKind.wrap .u64 (lz0 d))) 32)) (arI .mul .u64 (arI .sub .u64 q 1) (arI .shl .u64 d (IntKind.wrap .u64 (lz0 d))))) (arI .shr .u64 (arI .shl .u64 d (IntKind.wrap .u64 (lz0 d))) 32)) (arI .shr .u64 (arI .shl .u64 d (IntKind.wrap .u64 (lz0 d))) 32)))])
    False))) := by kernel_rfl
theorem t81 (a : Int) (b : Int) (d : Int) (Q : List Sc → Prop) : (fnT (cfgOf Tryd.prog sigs [95] [39, 74, 83, 84] (fun f r => if f = 81 then (if r = 17 then some ⟨[(15, (.int .u64)), (16, (.int .u64))], []⟩ else if r = 24 then some ⟨[(18, (.int .u64)), (16, (.int .u64))], []⟩ else none) else none)) 81 Tryd.f81 (bodyOf Tryd.f81) ⟨[(.one (.int .u64)), (.one (.int .u64)), (.one (.int .u64))], [(.one (.int .u64)), (.one (.int .u64))], none, none, none⟩ 100).holds Φ [.int a, .int b, .int d] (resQ Φ Q) =
  (cond (cmpI .eql d 0)
   False
   (cond (cmpI .lss a d)
    (cond (cmpI .eql a 0)
     (Q [.int (arI .quo .u64 b d), .int (arI .rem .u64 b d)])
     (cond (lzP d)
     (cond (!(cmpI .lss (IntKind.wrap .u64 (lz0 d)) 0))
     (cond (!(cmpI .lss (IntKind.wrap .u64 (lz0 d)) 0))
     (cond (!(cmpI .lss (arI .sub .u64 64 (IntKind.wrap .u64 (lz0 d))) 0))
     (cond (!(cmpI .lss (IntKind.wrap .u64 (lz0 d)) 0))
     (cond (!(cmpI .eql (arI .shr .u64 (arI .shl .u64 d (IntKind.wrap .u64 (lz0 d))) 32) 0))
     (∃ n₀, iterH (fun ρ' Q' => b81.holds Φ ρ' Q') Φ [.int a, .int b, .int d] (resQ Φ Q) n₀ [.int (arI .quo .u64 (arI .or .u64 (arI .shl .u64 a (IntKind.wrap .u64 (lz0 d))) (arI .shr .u64 b (arI .sub .u64 64 (IntKind.wrap .u64 (lz0 d))))) (arI .shr .u64 (arI .shl .u64 d (IntKind.wrap .u64 (lz0 d))) 32)), .int (arI .sub .u64 (arI .or .u64 (arI .shl .u64 a (IntKind.wrap .u64 (lz0 d))) (arI .shr .u64 b (arI .sub .u64 64 (IntKind.wrap .u64 (lz0 d))))) (arI .mul .u64 (arI .quo .u64 (arI .or .u64 (arI .shl .u64 a (IntKind.wrap .u64 (lz0 d))) (arI .shr .u64 b (arI .sub .u64 64 (IntKind.wrap .u64 (lz0 d))))) (arI .shr .u64 (arI .shl .u64 d (IntKind.wrap .u64 (lz0 d))) 32)) (arI .shr .u64 (arI .shl .u64 d (IntKind.wrap .u64 (lz0 d))) 32)))])
     False)
     False)
     False)
     False)
     False)
     False))
    False)) := by rw [t81l]; rfl

theorem kb81_1 {a b d s Y L U y1 y0 u1 u0 : Int} (hS : IntKind.wrap .u64 (lz0 d) = s) (hY : arI .shl .u64 d s = Y) (hL : arI .shl .u64 b s = L) (hU : arI .or .u64 (arI .shl .u64 a s) (arI .shr .u64 b (arI .sub .u64 64 s)) = U) (h1 : arI .shr .u64 Y 32 = y1) (h0 : arI .and .u64 Y 4294967295 = y0) (hu1 : arI .shr .u64 L 32 = u1) (hu0 : arI .and .u64 L 4294967295 = u0) (eY : Y = y1 * 4294967296 + y0) (b1 : 2147483648 ≤ y1) (b1' : y1 < 4294967296) (b0 : 0 ≤ y0) (b0' : y0 < 4294967296) (bU : 0 ≤ U) (bU' : U < Y) (bu1 : 0 ≤ u1) (bu1' : u1 < 4294967296) (bu0 : 0 ≤ u0) (bu0' : u0 < 4294967296) (s0 : 0 ≤ s) (s1 : s ≤ 63) (q r : Int) (it : List Sc → Prop) (Q : List Sc → Prop) (hE : (arI .sub .u64 q 1) = (U * 4294967296 + u1) / Y)
    (hQ : Q [.int ((U * 4294967296 + u1) / Y * 4294967296 + ((U * 4294967296 + u1) % Y * 4294967296 + u0) / Y), .int (((U * 4294967296 + u1) % Y * 4294967296 + u0) % Y / 2 ^ s.toNat)]) :
    ∃ n₀, iterH (fun ρ' Q' => b81_1.holds Φ ρ' Q') Φ [.int a, .int b, .int d, .int q, .int r] (loopQ it Φ (resQ Φ Q)) n₀ [.int (arI .quo .u64 (arI .sub .u64 (arI .add .u64 (arI .mul .u64 U 4294967296) u1) (arI .mul .u64 (arI .sub .u64 q 1) Y)) y1), .int (arI .sub .u64 (arI .sub .u64 (arI .add .u64 (arI .mul .u64 U 4294967296) u1) (arI .mul .u64 (arI .sub .u64 q 1) Y)) (arI .mul .u64 (arI .quo .u64 (arI .sub .u64 (arI .add .u64 (arI .mul .u64 U 4294967296) u1) (arI .mul .u64 (arI .sub .u64 q 1) Y)) y1) y1))] := by
  have Yp : 0 < Y := by omega
  have em : U * 4294967296 + u1 - (U * 4294967296 + u1) / Y * Y = (U * 4294967296 + u1) % Y := by
    have := Int.mul_ediv_add_emod (U * 4294967296 + u1) Y
    rw [Int.mul_comm] at this
    omega
  have V0 := Int.emod_nonneg (U * 4294967296 + u1) (show Y ≠ 0 by omega)
  have V1 := Int.emod_lt_of_pos (U * 4294967296 + u1) Yp
  have eV : arI .sub .u64 (arI .add .u64 (arI .mul .u64 U 4294967296) u1) (arI .mul .u64 (arI .sub .u64 q 1) Y) = (U * 4294967296 + u1) % Y := by
    rw [hE, muladdsub (by omega) (by omega), em]
  rw [eV]
  have Q1a : 0 ≤ (U * 4294967296 + u1) / Y := Int.ediv_nonneg (by omega) (Int.le_of_lt Yp)
  have Q1b : (U * 4294967296 + u1) / Y < 4294967296 := by
    apply Int.ediv_lt_of_lt_mul Yp
    omega
  generalize (U * 4294967296 + u1) % Y = V at *
  generalize (U * 4294967296 + u1) / Y = D1 at *
  have W0 : 0 ≤ V * 4294967296 + u0 := by omega
  have Q2a : 0 ≤ (V * 4294967296 + u0) / Y := Int.ediv_nonneg W0 (Int.le_of_lt Yp)
  have Q2b : (V * 4294967296 + u0) / Y < 4294967296 := by
    apply Int.ediv_lt_of_lt_mul Yp
    omega
  have em2 : V * 4294967296 + u0 - (V * 4294967296 + u0) / Y * Y = (V * 4294967296 + u0) % Y := by
    have := Int.mul_ediv_add_emod (V * 4294967296 + u0) Y
    rw [Int.mul_comm] at this
    omega
  have R0 := Int.emod_nonneg (V * 4294967296 + u0) (show Y ≠ 0 by omega)
  have R1 := Int.emod_lt_of_pos (V * 4294967296 + u0) Yp
  have ki := knuth_init (U := V) (u := u0) b1 b0 V0 bu0 bu0'
  have i0 : 0 ≤ V / y1 := Int.ediv_nonneg V0 (by omega)
  have i1 : V / y1 ≤ V := Int.ediv_le_self _ V0
  have i2 := Int.mul_ediv_add_emod V y1
  have i3 := Int.emod_nonneg V (show y1 ≠ 0 by omega)
  have i4 := Int.emod_lt_of_pos V (show 0 < y1 by omega)
  rw [Int.mul_comm] at i2
  have i5 : 0 ≤ V / y1 * y1 := Int.mul_nonneg i0 (by omega)
  rw [uar_quo V0 (by omega) (by omega), uar_mul i5 (by omega), uar_sub (a := V) (by omega) (by omega), show V - V / y1 * y1 = V % y1 by omega]
  rw [← eY] at ki
  have es : (!(cmpI .lss s 0)) = true := by rw [lss_d, decide_eq_false (by omega)]; rfl
  refine iter_inv (I := fun n vs => ∃ q2 r2 : Int, vs = [.int q2, .int r2] ∧ q2 * y1 + r2 = V ∧ 0 ≤ r2 ∧ r2 < 4294967296 ∧ (V * 4294967296 + u0) / Y ≤ q2 ∧ q2 ≤ 18446744073709551615 ∧ q2 ≤ n) ?_ (V / y1).toNat _ ⟨V / y1, V % y1, rfl, i2, i3, by omega, ki, by omega, by omega⟩
  rintro n vs ⟨q2, r2, rfl, k1, k2, k3, k4, k5, k6⟩ it1 hit
  show b81_1.holds Φ [.int a, .int b, .int d, .int q, .int r, .int q2, .int r2] _
  rw [b81_1h, hS, hY, hL, hU, h1, h0, hu1, hu0, es]
  have eV' : arI .sub .u64 (arI .add .u64 (arI .mul .u64 U 4294967296) u1) (arI .mul .u64 D1 Y) = V := by rw [hE] at eV; exact eV
  rw [hE, eV']
  have ea : arI .add .u64 r2 y1 = r2 + y1 := uar_add (by omega) (by omega)
  rw [ea, lss_d q2, lss_d (r2 + y1)]
  have k4' := k4
  rw [eY] at k4'
  have FIN : ∀ z : Int, z = (V * 4294967296 + u0) / Y → Q [.int (arI .add .u64 (arI .mul .u64 D1 4294967296) z), .int (arI .shr .u64 (arI .sub .u64 (arI .add .u64 (arI .mul .u64 V 4294967296) u0) (arI .mul .u64 z Y)) s)] := by
    intro z hz
    subst hz
    rw [muladdsub (by omega) (by omega), em2, u64_shr s (by omega), uar_mul (by omega) (by omega), uar_add (by omega) (by omega)]
    exact hQ
  have DEC : 4294967296 ≤ q2 ∨ 4294967296 * r2 + u0 < q2 * y0 → cond (decide (r2 + y1 < 4294967296)) (it1 [.int (arI .sub .u64 q2 1), .int (r2 + y1)]) (Q [.int (arI .add .u64 (arI .mul .u64 D1 4294967296) (arI .sub .u64 q2 1)), .int (arI .shr .u64 (arI .sub .u64 (arI .add .u64 (arI .mul .u64 V 4294967296) u0) (arI .mul .u64 (arI .sub .u64 q2 1) Y)) s)]) := by
    intro c
    obtain ⟨g1, g2, g3, g4⟩ := knuth_dec (U := V) (u := u0) b1 b0 b0' V0 (by omega) bu0 bu0' k1 k2 k4' c
    rw [← eY] at g2 g4
    rw [uar_sub (a := q2) (b := 1) (by omega) (by omega)]
    by_cases cr : r2 + y1 < 4294967296
    · rw [decide_eq_true cr]
      cases n with
      | zero => omega
      | succ n => exact hit n _ rfl ⟨q2 - 1, r2 + y1, rfl, g3, by omega, by omega, g2, by omega, by omega⟩
    · rw [decide_eq_false cr]
      exact FIN _ (g4 (by omega))
  by_cases cq : q2 < 4294967296
  · obtain ⟨l1, l2⟩ := knuth_look (y0 := y0) (u := u0) b0 b0' bu0 bu0' (by omega) cq k2 k3
    rw [decide_eq_true cq, l1, l2, lss_d]
    by_cases cc : 4294967296 * r2 + u0 < q2 * y0
    · rw [decide_eq_true cc]
      exact DEC (.inr cc)
    · rw [decide_eq_false cc]
      exact FIN q2 (by have := knuth_end (U := V) (u := u0) b1 b0 k1 k4' (by omega); rw [← eY] at this; exact this)
  · rw [decide_eq_false cq]
    exact DEC (.inl (by omega))


theorem kb81_2 {a b d s Y L U y1 y0 u1 u0 : Int} (hS : IntKind.wrap .u64 (lz0 d) = s) (hY : arI .shl .u64 d s = Y) (hL : arI .shl .u64 b s = L) (hU : arI .or .u64 (arI .shl .u64 a s) (arI .shr .u64 b (arI .sub .u64 64 s)) = U) (h1 : arI .shr .u64 Y 32 = y1) (h0 : arI .and .u64 Y 4294967295 = y0) (hu1 : arI .shr .u64 L 32 = u1) (hu0 : arI .and .u64 L 4294967295 = u0) (eY : Y = y1 * 4294967296 + y0) (b1 : 2147483648 ≤ y1) (b1' : y1 < 4294967296) (b0 : 0 ≤ y0) (b0' : y0 < 4294967296) (bU : 0 ≤ U) (bU' : U < Y) (bu1 : 0 ≤ u1) (bu1' : u1 < 4294967296) (bu0 : 0 ≤ u0) (bu0' : u0 < 4294967296) (s0 : 0 ≤ s) (s1 : s ≤ 63) (q r : Int) (it : List Sc → Prop) (Q : List Sc → Prop) (hE : q = (U * 4294967296 + u1) / Y)
    (hQ : Q [.int ((U * 4294967296 + u1) / Y * 4294967296 + ((U * 4294967296 + u1) % Y * 4294967296 + u0) / Y), .int (((U * 4294967296 + u1) % Y * 4294967296 + u0) % Y / 2 ^ s.toNat)]) :
    ∃ n₀, iterH (fun ρ' Q' => b81_2.holds Φ ρ' Q') Φ [.int a, .int b, .int d, .int q, .int r] (loopQ it Φ (resQ Φ Q)) n₀ [.int (arI .quo .u64 (arI .sub .u64 (arI .add .u64 (arI .mul .u64 U 4294967296) u1) (arI .mul .u64 q Y)) y1), .int (arI .sub .u64 (arI .sub .u64 (arI .add .u64 (arI .mul .u64 U 4294967296) u1) (arI .mul .u64 q Y)) (arI .mul .u64 (arI .quo .u64 (arI .sub .u64 (arI .add .u64 (arI .mul .u64 U 4294967296) u1) (arI .mul .u64 q Y)) y1) y1))] := by
  have Yp : 0 < Y := by omega
  have em : U * 4294967296 + u1 - (U * 4294967296 + u1) / Y * Y = (U * 4294967296 + u1) % Y := by
    have := Int.mul_ediv_add_emod (U * 4294967296 + u1) Y
    rw [Int.mul_comm] at this
    omega
  have V0 := Int.emod_nonneg (U * 4294967296 + u1) (show Y ≠ 0 by omega)
  have V1 := Int.emod_lt_of_pos (U * 4294967296 + u1) Yp
  have eV : arI .sub .u64 (arI .add .u64 (arI .mul .u64 U 4294967296) u1) (arI .mul .u64 q Y) = (U * 4294967296 + u1) % Y := by
    rw [hE, muladdsub (by omega) (by omega), em]
  rw [eV]
  have Q1a : 0 ≤ (U * 4294967296 + u1) / Y := Int.ediv_nonneg (by omega) (Int.le_of_lt Yp)
  have Q1b : (U * 4294967296 + u1) / Y < 4294967296 := by
    apply Int.ediv_lt_of_lt_mul Yp
    omega
  generalize (U * 4294967296 + u1) % Y = V at *
  generalize (U * 4294967296 + u1) / Y = D1 at *
  have W0 : 0 ≤ V * 4294967296 + u0 := by omega
  have Q2a : 0 ≤ (V * 4294967296 + u0) / Y := Int.ediv_nonneg W0 (Int.le_of_lt Yp)
  have Q2b : (V * 4294967296 + u0) / Y < 4294967296 := by
    apply Int.ediv_lt_of_lt_mul Yp
    omega
  have em2 : V * 4294967296 + u0 - (V * 4294967296 + u0) / Y * Y = (V * 4294967296 + u0) % Y := by
    have := Int.mul_ediv_add_emod (V * 4294967296 + u0) Y
    rw [Int.mul_comm] at this
    omega
  have R0 := Int.emod_nonneg (V * 4294967296 + u0) (show Y ≠ 0 by omega)
  have R1 := Int.emod_lt_of_pos (V * 4294967296 + u0) Yp
  have ki := knuth_init (U := V) (u := u0) b1 b0 V0 bu0 bu0'
  have i0 : 0 ≤ V / y1 := Int.ediv_nonneg V0 (by omega)
  have i1 : V / y1 ≤ V := Int.ediv_le_self _ V0
  have i2 := Int.mul_ediv_add_emod V y1
  have i3 := Int.emod_nonneg V (show y1 ≠ 0 by omega)
  have i4 := Int.emod_lt_of_pos V (show 0 < y1 by omega)
  rw [Int.mul_comm] at i2
  have i5 : 0 ≤ V / y1 * y1 := Int.mul_nonneg i0 (by omega)
  rw [uar_quo V0 (by omega) (by omega), uar_mul i5 (by omega), uar_sub (a := V) (by omega) (by omega), show V - V / y1 * y1 = V % y1 by omega]
  rw [← eY] at ki
  have es : (!(cmpI .lss s 0)) = true := by rw [lss_d, decide_eq_false (by omega)]; rfl
  refine iter_inv (I := fun n vs => ∃ q2 r2 : Int, vs = [.int q2, .int r2] ∧ q2 * y1 + r2 = V ∧ 0 ≤ r2 ∧ r2 < 4294967296 ∧ (V * 4294967296 + u0) / Y ≤ q2 ∧ q2 ≤ 18446744073709551615 ∧ q2 ≤ n) ?_ (V / y1).toNat _ ⟨V / y1, V % y1, rfl, i2, i3, by omega, ki, by omega, by omega⟩
  rintro n vs ⟨q2, r2, rfl, k1, k2, k3, k4, k5, k6⟩ it1 hit
  show b81_2.holds Φ [.int a, .int b, .int d, .int q, .int r, .int q2, .int r2] _
  rw [b81_2h, hS, hY, hL, hU, h1, h0, hu1, hu0, es]
  have eV' : arI .sub .u64 (arI .add .u64 (arI .mul .u64 U 4294967296) u1) (arI .mul .u64 D1 Y) = V := by rw [hE] at eV; exact eV
  rw [hE, eV']
  have ea : arI .add .u64 r2 y1 = r2 + y1 := uar_add (by omega) (by omega)
  rw [ea, lss_d q2, lss_d (r2 + y1)]
  have k4' := k4
  rw [eY] at k4'
  have FIN : ∀ z : Int, z = (V * 4294967296 + u0) / Y → Q [.int (arI .add .u64 (arI .mul .u64 D1 4294967296) z), .int (arI .shr .u64 (arI .sub .u64 (arI .add .u64 (arI .mul .u64 V 4294967296) u0) (arI .mul .u64 z Y)) s)] := by
    intro z hz
    subst hz
    rw [muladdsub (by omega) (by omega), em2, u64_shr s (by omega), uar_mul (by omega) (by omega), uar_add (by omega) (by omega)]
    exact hQ
  have DEC : 4294967296 ≤ q2 ∨ 4294967296 * r2 + u0 < q2 * y0 → cond (decide (r2 + y1 < 4294967296)) (it1 [.int (arI .sub .u64 q2 1), .int (r2 + y1)]) (Q [.int (arI .add .u64 (arI .mul .u64 D1 4294967296) (arI .sub .u64 q2 1)), .int (arI .shr .u64 (arI .sub .u64 (arI .add .u64 (arI .mul .u64 V 4294967296) u0) (arI .mul .u64 (arI .sub .u64 q2 1) Y)) s)]) := by
    intro c
    obtain ⟨g1, g2, g3, g4⟩ := knuth_dec (U := V) (u := u0) b1 b0 b0' V0 (by omega) bu0 bu0' k1 k2 k4' c
    rw [← eY] at g2 g4
    rw [uar_sub (a := q2) (b := 1) (by omega) (by omega)]
    by_cases cr : r2 + y1 < 4294967296
    · rw [decide_eq_true cr]
      cases n with
      | zero => omega
      | succ n => exact hit n _ rfl ⟨q2 - 1, r2 + y1, rfl, g3, by omega, by omega, g2, by omega, by omega⟩
    · rw [decide_eq_false cr]
      exact FIN _ (g4 (by omega))
  by_cases cq : q2 < 4294967296
  · obtain ⟨l1, l2⟩ := knuth_look (y0 := y0) (u := u0) b0 b0' bu0 bu0' (by omega) cq k2 k3
    rw [decide_eq_true cq, l1, l2, lss_d]
    by_cases cc : 4294967296 * r2 + u0 < q2 * y0
    · rw [decide_eq_true cc]
      exact DEC (.inr cc)
    · rw [decide_eq_false cc]
      exact FIN q2 (by have := knuth_end (U := V) (u := u0) b1 b0 k1 k4' (by omega); rw [← eY] at this; exact this)
  · rw [decide_eq_false cq]
    exact DEC (.inl (by omega))


theorem u64_mask {x : Int} (h₀ : 0 ≤ x) (h₁ : x < 18446744073709551616) : arI .and .u64 x 4294967295 = x % 4294967296 := bits_mask .u64 64 (by decide) wraps_u64 32 (by decide) x h₀ h₁
theorem lz_shift {d : Int} (h0 : 0 < d) (h1 : d < 18446744073709551616) : ∃ s : Int, lz0 d = s ∧ 0 ≤ s ∧ s ≤ 63 ∧ 9223372036854775808 ≤ d * 2 ^ s.toNat ∧ d * 2 ^ s.toNat < 18446744073709551616 := by
  have hb := Lib.bitLenAux_bounds 64 d.toNat (by omega) (by omega)
  obtain ⟨b1, b2, b3⟩ := hb
  have hlen : Lib.bitLen d.toNat = Lib.bitLenAux 64 d.toNat := rfl
  rw [← hlen] at b1 b2 b3
  have ble : Lib.bitLen d.toNat ≤ 64 := Lib.bitLen_le d.toNat 64 (by omega) (by omega)
  refine ⟨64 - (Lib.bitLen d.toNat : Int), rfl, by omega, by omega, ?_, ?_⟩
  · have e : (64 - (Lib.bitLen d.toNat : Int)).toNat = 64 - Lib.bitLen d.toNat := by omega
    rw [e]
    have k1 : ((2 ^ (Lib.bitLen d.toNat - 1) : Nat) : Int) ≤ d := by omega
    have k2 := Int.mul_le_mul_of_nonneg_right k1 (show 0 ≤ (2 : Int) ^ (64 - Lib.bitLen d.toNat) from Int.le_of_lt (two_pos _))
    have k3 : ((2 ^ (Lib.bitLen d.toNat - 1) : Nat) : Int) * 2 ^ (64 - Lib.bitLen d.toNat) = 9223372036854775808 := by
      rw [Int.natCast_pow, show ((2 : Nat) : Int) = 2 from rfl, ← Int.pow_add, show Lib.bitLen d.toNat - 1 + (64 - Lib.bitLen d.toNat) = 63 by omega]
      decide
    omega
  · have e : (64 - (Lib.bitLen d.toNat : Int)).toNat = 64 - Lib.bitLen d.toNat := by omega
    rw [e]
    have k1 : d < ((2 ^ Lib.bitLen d.toNat : Nat) : Int) := by omega
    have k2 := Int.mul_lt_mul_of_pos_right k1 (two_pos (64 - Lib.bitLen d.toNat))
    have k3 : ((2 ^ Lib.bitLen d.toNat : Nat) : Int) * 2 ^ (64 - Lib.bitLen d.toNat) = 18446744073709551616 := by
      rw [Int.natCast_pow, show ((2 : Nat) : Int) = 2 from rfl, ← Int.pow_add, show Lib.bitLen d.toNat + (64 - Lib.bitLen d.toNat) = 64 by omega]
      decide
    omega

theorem c81 : CT Tryd.prog sigs Φ 81 :=
  ct_of [95] [39, 74, 83, 84] (fun f r => if f = 81 then (if r = 17 then some ⟨[(15, (.int .u64)), (16, (.int .u64))], []⟩ else if r = 24 then some ⟨[(18, (.int .u64)), (16, (.int .u64))], []⟩ else none) else none) 100 mixed rfl Tryd.func81 (by kernel_rfl) (forall_cons c95 forall_nil) fun l0 hl0 hp => by
    obtain ⟨a, l1, rfl, hl1⟩ := canon_int hl0
    obtain ⟨b, l2, rfl, hl2⟩ := canon_int hl1
    obtain ⟨d, l3, rfl, hl3⟩ := canon_int hl2
    cases canon_nil hl3
    clear hl3 hl2 hl1 hl0
    have hp : divP a b d = true := hp
    show T.holds _ _ _ (resQ Φ fun rs => rs = [.int (div0 a b d), .int (div1 a b d)])
    rw [t81]
    simp only [divP, Bool.and_eq_true, uu_iff, decide_eq_true_eq] at hp
    obtain ⟨⟨⟨ha, hb⟩, hd⟩, hlt⟩ := hp
    rw [eql_d, lss_d a, decide_eq_false (p := d = 0) (by omega), decide_eq_true hlt, eql_d]
    by_cases a0 : a = 0
    · subst a0
      rw [decide_eq_true rfl, uar_quo (x := b) (by omega) (by omega) (by omega), rem_nn .u64 (by omega)]
      simp only [div0, div1]
      rw [show mg 0 b = b by unfold mg; omega]
      rfl
    · rw [decide_eq_false a0]
      have hlz : lzP d = true := by unfold lzP; rw [uu_iff]; omega
      obtain ⟨s, hs, s0, s1, Yl, Yh⟩ := lz_shift (by omega) hd.2
      have hS : IntKind.wrap .u64 (lz0 d) = s := by rw [hs, wrap_u]; omega
      have p0 := two_pos s.toNat
      have hY : arI .shl .u64 d s = d * 2 ^ s.toNat := by rw [u64_shl s (by omega)]; omega
      have hL : arI .shl .u64 b s = b * 2 ^ s.toNat % 18446744073709551616 := u64_shl s (by omega)
      have eM : (18446744073709551616 : Int) = 2 ^ (64 - s).toNat * 2 ^ s.toNat := by
        rw [← Int.pow_add, show (64 - s).toNat + s.toNat = 64 by omega]
        decide
      have p1 := two_pos (64 - s).toNat
      have aS0 : 0 ≤ a * 2 ^ s.toNat := Int.mul_nonneg (by omega) (by omega)
      have aS1 : a * 2 ^ s.toNat + 2 ^ s.toNat ≤ d * 2 ^ s.toNat := by
        have := Int.mul_le_mul_of_nonneg_right (show a + 1 ≤ d by omega) (show 0 ≤ (2 : Int) ^ s.toNat by omega)
        rw [Int.add_mul, Int.one_mul] at this
        exact this
      have bq0 : 0 ≤ b / 2 ^ (64 - s).toNat := Int.ediv_nonneg (by omega) (by omega)
      have bq1 : b / 2 ^ (64 - s).toNat < 2 ^ s.toNat := by
        apply Int.ediv_lt_of_lt_mul p1
        rw [Int.mul_comm, ← eM]
        omega
      have hU : arI .or .u64 (arI .shl .u64 a s) (arI .shr .u64 b (arI .sub .u64 64 s)) = a * 2 ^ s.toNat + b / 2 ^ (64 - s).toNat := by
        rw [uar_sub (a := 64) (by omega) (by omega), u64_shl s (by omega), u64_shr (64 - s) (by omega)]
        rw [show a * 2 ^ s.toNat % 18446744073709551616 = a * 2 ^ s.toNat by omega]
        exact u64_orJ s.toNat aS0 (Int.mul_emod_left ..) (by omega) bq0 bq1 (by omega)
      have hN : mg a b * 2 ^ s.toNat = (a * 2 ^ s.toNat + b / 2 ^ (64 - s).toNat) * 18446744073709551616 + b * 2 ^ s.toNat % 18446744073709551616 := by
        have k1 : b * 2 ^ s.toNat / 18446744073709551616 = b / 2 ^ (64 - s).toNat := by
          rw [eM]
          exact Int.mul_ediv_mul_of_pos_left _ _ p0
        have k2 := Int.mul_ediv_add_emod (b * 2 ^ s.toNat) 18446744073709551616
        rw [k1] at k2
        unfold mg
        rw [Int.add_mul, Int.mul_right_comm]
        omega
      have L0 := Int.emod_nonneg (b * 2 ^ s.toNat) (show (18446744073709551616 : Int) ≠ 0 by decide)
      have L1 := Int.emod_lt_of_pos (b * 2 ^ s.toNat) (show (0 : Int) < 18446744073709551616 by decide)
      generalize hLL : b * 2 ^ s.toNat % 18446744073709551616 = L at *
      generalize hUU : a * 2 ^ s.toNat + b / 2 ^ (64 - s).toNat = U at *
      have U0 : 0 ≤ U := by omega
      have U1 : U < d * 2 ^ s.toNat := by omega
      have fin1 : mg a b / d = mg a b * 2 ^ s.toNat / (d * 2 ^ s.toNat) := (Int.mul_ediv_mul_of_pos_left _ _ p0).symm
      have fin2 : mg a b % d = mg a b * 2 ^ s.toNat % (d * 2 ^ s.toNat) / 2 ^ s.toNat := by
        rw [Int.mul_comm (mg a b), Int.mul_comm d, Int.mul_emod_mul_of_pos _ _ p0, Int.mul_ediv_cancel_left _ (by omega)]
      generalize hYY : d * 2 ^ s.toNat = Y at *
      have h1 : arI .shr .u64 Y 32 = Y / 4294967296 := u64_shr 32 (by omega)
      have h0 : arI .and .u64 Y 4294967295 = Y % 4294967296 := u64_mask (by omega) (by omega)
      have hu1 : arI .shr .u64 L 32 = L / 4294967296 := u64_shr 32 (by omega)
      have hu0 : arI .and .u64 L 4294967295 = L % 4294967296 := u64_mask (by omega) (by omega)
      have eY : Y = Y / 4294967296 * 4294967296 + Y % 4294967296 := by omega
      have eL : L = L / 4294967296 * 4294967296 + L % 4294967296 := by omega
      have b1 : 2147483648 ≤ Y / 4294967296 := by omega
      have b1' : Y / 4294967296 < 4294967296 := by omega
      have b0 : 0 ≤ Y % 4294967296 := by omega
      have b0' : Y % 4294967296 < 4294967296 := by omega
      have bu1 : 0 ≤ L / 4294967296 := by omega
      have bu1' : L / 4294967296 < 4294967296 := by omega
      have bu0 : 0 ≤ L % 4294967296 := by omega
      have bu0' : L % 4294967296 < 4294967296 := by omega
      generalize Y / 4294967296 = y1 at *
      generalize Y % 4294967296 = y0 at *
      generalize L / 4294967296 = u1 at *
      generalize L % 4294967296 = u0 at *
      have Yp : 0 < Y := by omega
      -- the two digits
      have two : mg a b * 2 ^ s.toNat / Y = (U * 4294967296 + u1) / Y * 4294967296 + ((U * 4294967296 + u1) % Y * 4294967296 + u0) / Y ∧ mg a b * 2 ^ s.toNat % Y = ((U * 4294967296 + u1) % Y * 4294967296 + u0) % Y := by
        have k1 := Int.mul_ediv_add_emod (U * 4294967296 + u1) Y
        have k2 := Int.mul_ediv_add_emod ((U * 4294967296 + u1) % Y * 4294967296 + u0) Y
        have k3 := Int.emod_nonneg ((U * 4294967296 + u1) % Y * 4294967296 + u0) (show Y ≠ 0 by omega)
        have k4 := Int.emod_lt_of_pos ((U * 4294967296 + u1) % Y * 4294967296 + u0) Yp
        refine div_uniq k3 k4 ?_
        rw [hN, Int.mul_add, ← Int.mul_assoc]
        omega
      have hlz0 : lzP d = true := hlz
      have es : (!(cmpI .lss s 0)) = true := by rw [lss_d, decide_eq_false (by omega)]; rfl
      have es2 : (!(cmpI .lss (arI .sub .u64 64 s) 0)) = true := by rw [uar_sub (by omega) (by omega), lss_d, decide_eq_false (by omega)]; rfl
      have ey : (!(cmpI .eql y1 0)) = true := by rw [eql_d, decide_eq_false (by omega)]; rfl
      rw [hlz, hS, es, es2, hU, hY, h1, ey]
      have j0 : 0 ≤ U / y1 := Int.ediv_nonneg U0 (by omega)
      have j1 : U / y1 ≤ U := Int.ediv_le_self _ U0
      have j2 := Int.mul_ediv_add_emod U y1
      have j3 := Int.emod_nonneg U (show y1 ≠ 0 by omega)
      have j4 := Int.emod_lt_of_pos U (show 0 < y1 by omega)
      rw [Int.mul_comm] at j2
      have j5 : 0 ≤ U / y1 * y1 := Int.mul_nonneg j0 (by omega)
      have ki := knuth_init (U := U) (u := u1) b1 b0 U0 bu1 bu1'
      rw [← eY] at ki
      rw [uar_quo U0 (by omega) (by omega), uar_mul j5 (by omega), uar_sub (a := U) (by omega) (by omega), show U - U / y1 * y1 = U % y1 by omega]
      have hQ : (fun rs => rs = [Sc.int (div0 a b d), .int (div1 a b d)]) [.int ((U * 4294967296 + u1) / Y * 4294967296 + ((U * 4294967296 + u1) % Y * 4294967296 + u0) / Y), .int (((U * 4294967296 + u1) % Y * 4294967296 + u0) % Y / 2 ^ s.toNat)] := by
        show _ = [Sc.int (mg a b / d), .int (mg a b % d)]
        rw [fin1, fin2, two.1, two.2]
      refine iter_inv (I := fun n vs => ∃ q r : Int, vs = [.int q, .int r] ∧ q * y1 + r = U ∧ 0 ≤ r ∧ r < 4294967296 ∧ (U * 4294967296 + u1) / Y ≤ q ∧ q ≤ 18446744073709551615 ∧ q ≤ n) ?_ (U / y1).toNat _ ⟨U / y1, U % y1, rfl, j2, j3, by omega, ki, by omega, by omega⟩
      rintro n vs ⟨q, r, rfl, k1, k2, k3, k4, k5, k6⟩ it hit
      show b81.holds Φ [.int a, .int b, .int d, .int q, .int r] _
      rw [b81h, hS, hY, hL, hU, h1, h0, hu1, ey]
      have ea : arI .add .u64 r y1 = r + y1 := uar_add (by omega) (by omega)
      rw [ea, lss_d q, lss_d (r + y1)]
      have k4' := k4
      rw [eY] at k4'
      by_cases cq : q < 4294967296
      · obtain ⟨l1, l2⟩ := knuth_look (y0 := y0) (u := u1) b0 b0' bu1 bu1' (by have := Int.ediv_nonneg (show 0 ≤ U * 4294967296 + u1 by omega) (Int.le_of_lt Yp); omega) cq k2 k3
        rw [decide_eq_true cq, l1, l2, lss_d]
        by_cases cc : 4294967296 * r + u1 < q * y0
        · rw [decide_eq_true cc]
          obtain ⟨g1, g2, g3, g4⟩ := knuth_dec (U := U) (u := u1) b1 b0 b0' U0 (by omega) bu1 bu1' k1 k2 k4' (.inr cc)
          rw [← eY] at g2 g4
          have e1 : arI .sub .u64 q 1 = q - 1 := uar_sub (by omega) (by omega)
          by_cases cr : r + y1 < 4294967296
          · rw [decide_eq_true cr, e1]
            cases n with
            | zero => omega
            | succ n => exact hit n _ rfl ⟨q - 1, r + y1, rfl, g3, by omega, by omega, g2, by omega, by omega⟩
          · rw [decide_eq_false cr]
            exact kb81_1 hS hY hL hU h1 h0 hu1 hu0 eY b1 b1' b0 b0' U0 U1 bu1 bu1' bu0 bu0' s0 s1 q r it _ (e1.trans (g4 (by omega))) hQ
        · rw [decide_eq_false cc]
          exact kb81_2 hS hY hL hU h1 h0 hu1 hu0 eY b1 b1' b0 b0' U0 U1 bu1 bu1' bu0 bu0' s0 s1 q r it _ (by have := knuth_end (U := U) (u := u1) b1 b0 k1 k4' (by omega); rw [← eY] at this; exact this) hQ
      · rw [decide_eq_false cq]
        obtain ⟨g1, g2, g3, g4⟩ := knuth_dec (U := U) (u := u1) b1 b0 b0' U0 (by omega) bu1 bu1' k1 k2 k4' (.inl (by omega))
        rw [← eY] at g2 g4
        have e1 : arI .sub .u64 q 1 = q - 1 := uar_sub (by omega) (by omega)
        by_cases cr : r + y1 < 4294967296
        · rw [decide_eq_true cr, e1]
          cases n with
          | zero => omega
          | succ n => exact hit n _ rfl ⟨q - 1, r + y1, rfl, g3, by omega, by omega, g2, by omega, by omega⟩
        · rw [decide_eq_false cr]
          exact kb81_1 hS hY hL hU h1 h0 hu1 hu0 eY b1 b1' b0 b0' U0 U1 bu1 bu1' bu0 bu0' s0 s1 q r it _ (e1.trans (g4 (by omega))) hQ

theorem c66 : CT Tryd.prog sigs Φ 66 :=
  ct_of [81] [39, 74, 83, 84] noLoop 100 mixed rfl Tryd.func66 (by kernel_rfl) (forall_cons c81 forall_nil) fun l0 hl0 hp => by
    obtain ⟨s, l1, rfl, hl1⟩ := canon_bool hl0
    obtain ⟨h, l2, rfl, hl2⟩ := canon_int hl1
    obtain ⟨l, l3, rfl, hl3⟩ := canon_int hl2
    obtain ⟨d, l4, rfl, hl4⟩ := canon_int hl3
    cases canon_nil hl4
    clear hl4 hl3 hl2 hl1 hl0
    have hp : ovrP s h l d = true := hp
    show T.holds _ _ _ (resQ Φ fun rs => rs = [.int (ovr0 s h l d), .int (ovr1 s h l d), .bool (ovr2 s h l d)])
    rw [t66]
    simp only [ovrP, Bool.and_eq_true, uu_iff, decide_eq_true_eq] at hp
    obtain ⟨⟨⟨hh, hl⟩, hd⟩, hd0⟩ := hp
    have e1 : (!(cmpI .eql d 0)) = true := by rw [eql_d, decide_eq_false (by omega)]; rfl
    have e2 : arI .rem .u64 h d = h % d := Int.tmod_eq_emod_of_nonneg hh.1
    have r0 := Int.emod_nonneg h (show d ≠ 0 by omega)
    have r1 := Int.emod_lt_of_pos h hd0
    have dp : divP (h % d) l d = true := by unfold divP; simp only [Bool.and_eq_true, uu_iff, decide_eq_true_eq]; omega
    rw [e1, e2, dp]
    simp only [div0, div1, ovr0, ovr1, ovr2, lss_d]
    have h2 : h = d * (h / d) + h % d := (Int.mul_ediv_add_emod h d).symm
    have em : mg h l = h / d * 18446744073709551616 * d + mg (h % d) l := by
      unfold mg
      generalize h % d = r at *
      generalize h / d = q at *
      subst h2
      rw [Int.add_mul, Int.mul_comm d q, Int.mul_right_comm]
      omega
    have Z0 : 0 ≤ mg (h % d) l := by unfold mg; omega
    have Z1 : mg (h % d) l / d < 18446744073709551616 := by
      apply Int.ediv_lt_of_lt_mul hd0
      unfold mg
      omega
    have Z2 : 0 ≤ mg (h % d) l / d := Int.ediv_nonneg Z0 (Int.le_of_lt hd0)
    have f1 : mg h l / d = h / d * 18446744073709551616 + mg (h % d) l / d := by
      rw [em, Int.add_comm, Int.add_mul_ediv_right _ _ (by omega), Int.add_comm]
    have f2 : mg h l % d = mg (h % d) l % d := by
      rw [em, Int.add_comm]
      exact Int.add_mul_emod_self_right ..
    rw [f1, f2]
    have f3 : (h / d * 18446744073709551616 + mg (h % d) l / d) % 18446744073709551616 = mg (h % d) l / d := by omega
    rw [f3]
    rfl

end Go.Proofs.YtkmffnjmiechfaaDoor
