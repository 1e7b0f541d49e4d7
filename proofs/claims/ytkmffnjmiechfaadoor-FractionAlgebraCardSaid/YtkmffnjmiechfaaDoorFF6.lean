/- The fraction seat: products in lowest terms: the contract's laws. -/
import Derived.Test.YtkmffnjmiechfaaDoorFF5
import Derived.Test.YtkmffnjmiechfaaDoorFM2
namespace Go.Proofs.YtkmffnjmiechfaaDoor
open Go.Sx
set_option linter.unusedVariables false
set_option linter.unusedSimpArgs false
set_option maxRecDepth 100000


theorem uar_quo {x g : Int} (h1 : 0 ≤ x) (h2 : x < 18446744073709551616) (hg : 0 < g) : arI .quo .u64 x g = x / g := by
  have e : x.tdiv g = x / g := Int.tdiv_eq_ediv_of_nonneg h1
  have b1 : 0 ≤ x / g := Int.ediv_nonneg h1 (by omega)
  have b2 : x / g ≤ x := Int.ediv_le_self _ h1
  show IntKind.wrap .u64 (x.tdiv g) = x / g
  rw [e, wrap_u]
  omega
theorem tdiv_sgn {N G : Int} (hG : 0 < G) : N.tdiv G = if N < 0 then -(ab N / G) else ab N / G := by
  unfold ab
  split
  · rw [← Int.tdiv_eq_ediv_of_nonneg (show 0 ≤ -N by omega), Int.neg_tdiv, Int.neg_neg]
  · exact Int.tdiv_eq_ediv_of_nonneg (by omega)
theorem sgn_mul (a b q : Int) (h : q = 0 ∨ (a ≠ 0 ∧ b ≠ 0)) : (if (decide (a < 0) != decide (b < 0)) = true then -q else q) = if a * b < 0 then -q else q := by
  rcases h with rfl | ⟨ha, hb⟩
  · split <;> split <;> rfl
  · by_cases h1 : a < 0 <;> by_cases h2 : b < 0
    · have := Int.mul_pos_of_neg_of_neg h1 h2
      simp [h1, h2, show ¬ a * b < 0 by omega]
    · have := Int.mul_neg_of_neg_of_pos h1 (show 0 < b by omega)
      simp [h1, h2, this]
    · have := Int.mul_neg_of_pos_of_neg (show 0 < a by omega) h2
      simp [h1, h2, this]
    · have := Int.mul_pos (show 0 < a by omega) (show 0 < b by omega)
      simp [h1, h2, show ¬ a * b < 0 by omega]
theorem fr_eq {N D n d R : Int} (hn : ab N / gI N D = n) (hd : D / gI N D = d) (hR : N.tdiv (gI N D) = R) :
    frN N D = (if n < 1000000000000000000 ∧ d < 1000000000000000000 then R else 0) ∧ frD N D = (if n < 1000000000000000000 ∧ d < 1000000000000000000 then d else 0) ∧ frE N D = (if n < 1000000000000000000 ∧ d < 1000000000000000000 then 0 else 6) := by
  subst hn hd hR
  have e : (frOk N D = true) = (ab N / gI N D < 1000000000000000000 ∧ D / gI N D < 1000000000000000000) := by
    simp only [frOk, BD, Bool.and_eq_true, decide_eq_true_eq]
  unfold frN frD frE
  by_cases h : frOk N D = true
  · have h' := h
    rw [e] at h'
    simp only [if_pos h, if_pos h']
    exact ⟨trivial, trivial, trivial⟩
  · have h' := h
    rw [e] at h'
    simp only [if_neg h, if_neg h']
    exact ⟨trivial, trivial, trivial⟩

end Go.Proofs.YtkmffnjmiechfaaDoor
