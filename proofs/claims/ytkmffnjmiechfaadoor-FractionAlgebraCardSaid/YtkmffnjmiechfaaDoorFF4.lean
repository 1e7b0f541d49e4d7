/- The fraction seat: contracts, the third part. -/
import Derived.Test.YtkmffnjmiechfaaDoorFF3
namespace Go.Proofs.YtkmffnjmiechfaaDoor
open Go.Sx
set_option linter.unusedVariables false
set_option linter.unusedSimpArgs false
set_option maxRecDepth 100000

theorem c44 : CT Tryd.prog sigs Φ 44 :=
  ct_of [70, 71, 72] [39, 74, 83, 84] noLoop 100 mixed rfl Tryd.func44 (by kernel_rfl) (forall_cons c70 (forall_cons c71 (forall_cons c72 forall_nil))) fun l0 hl0 hp => by
    obtain ⟨h, l1, rfl, hl1⟩ := canon_int hl0
    obtain ⟨l, l2, rfl, hl2⟩ := canon_int hl1
    obtain ⟨s, l3, rfl, hl3⟩ := canon_bool hl2
    obtain ⟨i, l4, rfl, hl4⟩ := canon_int hl3
    obtain ⟨m, l5, rfl, hl5⟩ := canon_int hl4
    obtain ⟨t, l6, rfl, hl6⟩ := canon_bool hl5
    cases canon_nil hl6
    clear hl6 hl5 hl4 hl3 hl2 hl1 hl0
    have hp : pluP h l s i m t = true := hp
    show T.holds _ _ _ (resQ Φ fun rs => rs = [.int (plu0 h l s i m t), .int (plu1 h l s i m t), .bool (plu2 h l s i m t)])
    rw [t44]
    simp only [pluP, Bool.and_eq_true, wu_iff] at hp
    by_cases st : (s == t) = true
    · have a1 : adP l m 0 = true := by unfold adP; simp only [Bool.and_eq_true, uu_iff, decide_eq_true_eq]; omega
      rw [st, a1]
      have a2 : adP h i (ad1 l m 0) = true := by unfold adP ad1; simp only [Bool.and_eq_true, uu_iff, decide_eq_true_eq]; omega
      rw [a2]
      simp only [plu0, plu1, plu2, st, if_true, ad0, ad1, mg]
      have e1 : (h + i + (l + m + 0) / 18446744073709551616) % 18446744073709551616 = (h * 18446744073709551616 + l + (i * 18446744073709551616 + m)) / 18446744073709551616 := by omega
      have e2 : (l + m + 0) % 18446744073709551616 = (h * 18446744073709551616 + l + (i * 18446744073709551616 + m)) % 18446744073709551616 := by omega
      rw [e1, e2]
      rfl
    · have st' : (s == t) = false := by cases hq : (s == t) <;> simp_all
      rw [st']
      have a3 : abvP i m t h l s = true := by unfold abvP; simp only [Bool.and_eq_true, uu_iff]; omega
      have b1 : sb'P m l 0 = true := by unfold sb'P; simp only [Bool.and_eq_true, uu_iff, decide_eq_true_eq]; omega
      have b2 : sb'P i h (sb'1 m l 0) = true := by unfold sb'P sb'1; simp only [Bool.and_eq_true, uu_iff, decide_eq_true_eq]; split <;> omega
      have b3 : sb'P l m 0 = true := by unfold sb'P; simp only [Bool.and_eq_true, uu_iff, decide_eq_true_eq]; omega
      have b4 : sb'P h i (sb'1 l m 0) = true := by unfold sb'P sb'1; simp only [Bool.and_eq_true, uu_iff, decide_eq_true_eq]; split <;> omega
      rw [a3, b1, b2, b3, b4]
      simp only [plu0, plu1, plu2, st', abv0, sb'0, sb'1, mg, Bool.false_eq_true, if_false]
      by_cases c : h * 18446744073709551616 + l < i * 18446744073709551616 + m
      · have e1 : (i - h - if m - l - 0 < 0 then 1 else 0) % 18446744073709551616 = ab (h * 18446744073709551616 + l - (i * 18446744073709551616 + m)) / 18446744073709551616 := by
          unfold ab
          rw [if_pos (show h * 18446744073709551616 + l - (i * 18446744073709551616 + m) < 0 by omega)]
          split <;> omega
        have e2 : (m - l - 0) % 18446744073709551616 = ab (h * 18446744073709551616 + l - (i * 18446744073709551616 + m)) % 18446744073709551616 := by
          unfold ab
          rw [if_pos (show h * 18446744073709551616 + l - (i * 18446744073709551616 + m) < 0 by omega)]
          omega
        simp only [Int.sub_zero] at e1 e2
        simp [c, e1, e2]
      · have e1 : (h - i - if l - m - 0 < 0 then 1 else 0) % 18446744073709551616 = ab (h * 18446744073709551616 + l - (i * 18446744073709551616 + m)) / 18446744073709551616 := by
          unfold ab
          rw [if_neg (show ¬ h * 18446744073709551616 + l - (i * 18446744073709551616 + m) < 0 by omega)]
          split <;> omega
        have e2 : (l - m - 0) % 18446744073709551616 = ab (h * 18446744073709551616 + l - (i * 18446744073709551616 + m)) % 18446744073709551616 := by
          unfold ab
          rw [if_neg (show ¬ h * 18446744073709551616 + l - (i * 18446744073709551616 + m) < 0 by omega)]
          omega
        simp only [Int.sub_zero] at e1 e2
        simp [c, e1, e2]

theorem c65 : CT Tryd.prog sigs Φ 65 :=
  ct_of [70, 56, 72] [39, 74, 83, 84] noLoop 100 mixed rfl Tryd.func65 (by kernel_rfl) (forall_cons c70 (forall_cons c56 (forall_cons c72 forall_nil))) fun l0 hl0 hp => by
    obtain ⟨s, l1, rfl, hl1⟩ := canon_bool hl0
    obtain ⟨h, l2, rfl, hl2⟩ := canon_int hl1
    obtain ⟨l, l3, rfl, hl3⟩ := canon_int hl2
    obtain ⟨t, l4, rfl, hl4⟩ := canon_bool hl3
    obtain ⟨i, l5, rfl, hl5⟩ := canon_int hl4
    obtain ⟨m, l6, rfl, hl6⟩ := canon_int hl5
    cases canon_nil hl6
    clear hl6 hl5 hl4 hl3 hl2 hl1 hl0
    have hp : sumP s h l t i m = true := hp
    show T.holds _ _ _ (resQ Φ fun rs => rs = [.bool (sum0 s h l t i m), .int (sum1 s h l t i m), .int (sum2 s h l t i m)])
    rw [t65]
    simp only [sumP, Bool.and_eq_true, wu_iff] at hp
    by_cases st : (s == t) = true
    · have a1 : adP l m 0 = true := by unfold adP; simp only [Bool.and_eq_true, uu_iff, decide_eq_true_eq]; omega
      rw [st, a1]
      have q : 0 ≤ (l + m + 0) / 18446744073709551616 ∧ (l + m + 0) / 18446744073709551616 ≤ 1 := by omega
      simp only [sum0, sum1, sum2, st, if_true, ad0, ad1, mg]
      rw [uar_add (a := h) (by omega) (by omega), uar_add (by omega) (by omega)]
      have e1 : h + i + (l + m + 0) / 18446744073709551616 = (h * 18446744073709551616 + l + (i * 18446744073709551616 + m)) / 18446744073709551616 := by omega
      have e2 : (l + m + 0) % 18446744073709551616 = (h * 18446744073709551616 + l + (i * 18446744073709551616 + m)) % 18446744073709551616 := by omega
      rw [e1, e2]
      rfl
    · have st' : (s == t) = false := by cases hq : (s == t) <;> simp_all
      rw [st']
      have a3 : cmwP s h l t i m = true := by unfold cmwP; simp only [Bool.and_eq_true, uu_iff]; omega
      have b1 : sb'P m l 0 = true := by unfold sb'P; simp only [Bool.and_eq_true, uu_iff, decide_eq_true_eq]; omega
      have b3 : sb'P l m 0 = true := by unfold sb'P; simp only [Bool.and_eq_true, uu_iff, decide_eq_true_eq]; omega
      rw [a3, b1, b3]
      simp only [sum0, sum1, sum2, st', cmw0, sb'0, sb'1, mg, lss_d, Bool.false_eq_true, if_false]
      by_cases c : h * 18446744073709551616 + l < i * 18446744073709551616 + m
      · have k : cmp3 (h * 18446744073709551616 + l) (i * 18446744073709551616 + m) < 0 := by unfold cmp3; rw [if_pos c]; omega
        have e1 : arI .sub .u64 (arI .sub .u64 i h) (if m - l - 0 < 0 then 1 else 0) = ab (h * 18446744073709551616 + l - (i * 18446744073709551616 + m)) / 18446744073709551616 := by
          unfold ab
          rw [if_pos (show h * 18446744073709551616 + l - (i * 18446744073709551616 + m) < 0 by omega), uar_sub (a := i) (by omega) (by omega)]
          split
          · rw [uar_sub (by omega) (by omega)]; omega
          · rw [uar_sub (by omega) (by omega)]; omega
        have e2 : (m - l - 0) % 18446744073709551616 = ab (h * 18446744073709551616 + l - (i * 18446744073709551616 + m)) % 18446744073709551616 := by
          unfold ab
          rw [if_pos (show h * 18446744073709551616 + l - (i * 18446744073709551616 + m) < 0 by omega)]
          omega
        rw [e1, e2]
        simp [c, k]
      · have k : ¬ cmp3 (h * 18446744073709551616 + l) (i * 18446744073709551616 + m) < 0 := by unfold cmp3; rw [if_neg c]; split <;> omega
        have e1 : arI .sub .u64 (arI .sub .u64 h i) (if l - m - 0 < 0 then 1 else 0) = ab (h * 18446744073709551616 + l - (i * 18446744073709551616 + m)) / 18446744073709551616 := by
          unfold ab
          rw [if_neg (show ¬ h * 18446744073709551616 + l - (i * 18446744073709551616 + m) < 0 by omega), uar_sub (a := h) (by omega) (by omega)]
          split
          · rw [uar_sub (by omega) (by omega)]; omega
          · rw [uar_sub (by omega) (by omega)]; omega
        have e2 : (l - m - 0) % 18446744073709551616 = ab (h * 18446744073709551616 + l - (i * 18446744073709551616 + m)) % 18446744073709551616 := by
          unfold ab
          rw [if_neg (show ¬ h * 18446744073709551616 + l - (i * 18446744073709551616 + m) < 0 by omega)]
          omega
        rw [e1, e2]
        simp [c, k]

end Go.Proofs.YtkmffnjmiechfaaDoor
