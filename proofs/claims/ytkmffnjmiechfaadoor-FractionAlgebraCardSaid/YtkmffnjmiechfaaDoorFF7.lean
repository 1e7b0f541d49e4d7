/- The fraction seat: the product of two fractions. -/
import Derived.Test.YtkmffnjmiechfaaDoorFF6
namespace Go.Proofs.YtkmffnjmiechfaaDoor
open Go.Sx
set_option linter.unusedVariables false
set_option linter.unusedSimpArgs false
set_option maxRecDepth 100000

theorem c41 : CT Tryd.prog sigs Φ 41 :=
  ct_of [47, 48, 67, 49] [39, 74, 83, 84] noLoop 100 mixed rfl Tryd.func41 (by kernel_rfl) (forall_cons c47 (forall_cons c48 (forall_cons c67 (forall_cons c49 forall_nil)))) fun l0 hl0 hp => by
    obtain ⟨an, l1, rfl, hl1⟩ := canon_int hl0
    obtain ⟨ad, l2, rfl, hl2⟩ := canon_int hl1
    obtain ⟨bn, l3, rfl, hl3⟩ := canon_int hl2
    obtain ⟨bd, l4, rfl, hl4⟩ := canon_int hl3
    cases canon_nil hl4
    clear hl4 hl3 hl2 hl1 hl0
    have hp : mulP an ad bn bd = true := hp
    show T.holds _ _ _ (resQ Φ fun rs => rs = [.int (mul0 an ad bn bd), .int (mul1 an ad bn bd), .int (mul2 an ad bn bd)])
    rw [t41]
    simp only [mulP, Bool.and_eq_true] at hp
    obtain ⟨v1, v2⟩ := hp
    have w1 := v1
    have w2 := v2
    rw [vF_iff] at w1 w2
    have hn := mul_num v1 v2
    have hd := mul_den v1 v2
    have g0 : 0 < gI an bd := gI_pos (.inr (by omega))
    have h0 : 0 < gI bn ad := gI_pos (.inr (by omega))
    have s1 : sizP an = true := by unfold sizP; rw [ii_iff]; omega
    have s2 : sizP bn = true := by unfold sizP; rw [ii_iff]; omega
    have aa : 0 ≤ ab an ∧ ab an < 1000000000000000000 := by unfold ab; split <;> omega
    have bb : 0 ≤ ab bn ∧ ab bn < 1000000000000000000 := by unfold ab; split <;> omega
    have wd : IntKind.wrap .u64 ad = ad := by rw [wrap_u]; omega
    have wb : IntKind.wrap .u64 bd = bd := by rw [wrap_u]; omega
    have p1 : gcdP (ab an) bd = true := by unfold gcdP; rw [Bool.and_eq_true, uu_iff, uu_iff]; omega
    have p2 : gcdP (ab bn) ad = true := by unfold gcdP; rw [Bool.and_eq_true, uu_iff, uu_iff]; omega
    rw [s1, s2, wd, wb]
    simp only [siz0]
    rw [p1, p2]
    simp only [gcd0, gI_ab]
    rw [uar_quo (x := ab an) (by omega) (by omega) g0, uar_quo (x := ab bn) (by omega) (by omega) h0, uar_quo (x := ad) (by omega) (by omega) h0, uar_quo (x := bd) (by omega) (by omega) g0]
    have b1 : 0 ≤ ab an / gI an bd := Int.ediv_nonneg aa.1 (by omega)
    have b1' : ab an / gI an bd ≤ ab an := Int.ediv_le_self _ aa.1
    have b2 : 0 ≤ ab bn / gI bn ad := Int.ediv_nonneg bb.1 (by omega)
    have b2' : ab bn / gI bn ad ≤ ab bn := Int.ediv_le_self _ bb.1
    have b3 : 0 ≤ ad / gI bn ad := Int.ediv_nonneg (by omega) (by omega)
    have b3' : ad / gI bn ad ≤ ad := Int.ediv_le_self _ (by omega)
    have b4 : 0 ≤ bd / gI an bd := Int.ediv_nonneg (by omega) (by omega)
    have b4' : bd / gI an bd ≤ bd := Int.ediv_le_self _ (by omega)
    have q1 : muP (ab an / gI an bd) (ab bn / gI bn ad) = true := by unfold muP; rw [Bool.and_eq_true, uu_iff, uu_iff]; omega
    have q2 : muP (ad / gI bn ad) (bd / gI an bd) = true := by unfold muP; rw [Bool.and_eq_true, uu_iff, uu_iff]; omega
    rw [q1, q2]
    simp only [mu0, mu1]
    rw [← hn, ← hd]
    have n0 : 0 ≤ ab (an * bn) / gI (an * bn) (ad * bd) := by rw [hn]; exact Int.mul_nonneg b1 b2
    have d0 : 0 ≤ ad * bd / gI (an * bn) (ad * bd) := by rw [hd]; exact Int.mul_nonneg b3 b4
    have G0 : 0 < gI (an * bn) (ad * bd) := by rw [mul_gcd v1 v2]; exact Int.mul_pos g0 h0
    have e1 : (!(cmpI .eql (gI an bd) 0)) = true := by rw [eql_d, decide_eq_false (by omega)]; rfl
    have e2 : (!(cmpI .eql (gI bn ad) 0)) = true := by rw [eql_d, decide_eq_false (by omega)]; rfl
    rw [e1, e2]
    have ts := tdiv_sgn (N := an * bn) G0
    have sg := sgn_mul an bn (ab (an * bn) / gI (an * bn) (ad * bd)) (by
      by_cases za : an = 0
      · left; subst za; rw [Int.zero_mul]; exact Int.zero_ediv _
      · by_cases zb : bn = 0
        · left; subst zb; rw [Int.mul_zero]; exact Int.zero_ediv _
        · exact .inr ⟨za, zb⟩)
    rw [← ts] at sg
    have fe := fr_eq (N := an * bn) (D := ad * bd) rfl rfl rfl
    simp only [mak0, mak1, mak2, mul0, mul1, mul2, lss_d]
    rw [fe.1, fe.2.1, fe.2.2]
    clear fe
    generalize (an * bn).tdiv (gI (an * bn) (ad * bd)) = R at sg ⊢
    generalize ab (an * bn) / gI (an * bn) (ad * bd) = n at n0 sg ⊢
    generalize ad * bd / gI (an * bn) (ad * bd) = d at d0 ⊢
    subst sg
    by_cases c1 : n < 1000000000000000000
    · have z1 : ¬ 0 < n / 18446744073709551616 := by omega
      have z2 : n % 18446744073709551616 = n := by omega
      by_cases c2 : d < 1000000000000000000
      · have z3 : ¬ 0 < d / 18446744073709551616 := by omega
        have z4 : d % 18446744073709551616 = d := by omega
        have mp : ∀ s, makP s n d = true := fun s => by unfold makP; rw [Bool.and_eq_true, uu_iff, uu_iff]; omega
        rw [z2, z4, mp]
        simp [z1, z3, c1, c2, bne]
      · by_cases z3 : 0 < d / 18446744073709551616
        · simp [z1, z3, c1, c2]
        · have z4 : d % 18446744073709551616 = d := by omega
          have mp : ∀ s, makP s n d = true := fun s => by unfold makP; rw [Bool.and_eq_true, uu_iff, uu_iff]; omega
          rw [z2, z4, mp]
          simp [z1, z3, c1, c2]
    · by_cases z1 : 0 < n / 18446744073709551616
      · simp [z1, c1]
      · have z2 : n % 18446744073709551616 = n := by omega
        by_cases z3 : 0 < d / 18446744073709551616
        · simp [z1, z3, c1]
        · have z4 : d % 18446744073709551616 = d := by omega
          have mp : ∀ s, makP s n d = true := fun s => by unfold makP; rw [Bool.and_eq_true, uu_iff, uu_iff]; omega
          rw [z2, z4, mp]
          simp [z1, z3, c1]

end Go.Proofs.YtkmffnjmiechfaaDoor
