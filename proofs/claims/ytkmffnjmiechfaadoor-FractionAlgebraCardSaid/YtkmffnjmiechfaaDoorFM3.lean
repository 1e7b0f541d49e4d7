/- The fraction seat: the simplest fraction of a range, in plain Lean. -/
import Derived.Test.YtkmffnjmiechfaaDoorFF0
namespace Go.Proofs.YtkmffnjmiechfaaDoor
open Go.Sx
theorem simB_iff (an ad bn bd : Int) : (simB an ad bn bd = true) = ((1 ≤ an ∧ an < 1000000000000000000) ∧ (1 ≤ ad ∧ ad < 1000000000000000000) ∧ (1 ≤ bn ∧ bn < 1000000000000000000) ∧ (1 ≤ bd ∧ bd < 1000000000000000000) ∧ an * bd ≤ bn * ad) := by
  simp only [simB, BD, Bool.and_eq_true, decide_eq_true_eq, and_assoc]
/-- Both have the same integer part: what is left, inverted. -/
theorem sim_step {an ad bn bd : Int} (h : simB an ad bn bd = true) (h0 : an % ad ≠ 0) (h1 : ¬ an / ad + 1 ≤ bn / bd) :
    bn / bd = an / ad ∧ bn - an / ad * bd = bn % bd ∧ an - an / ad * ad = an % ad ∧ 0 < an % ad ∧ an % ad < ad ∧ 0 < bn % bd ∧ bn % bd < bd ∧ simB bd (bn - an / ad * bd) ad (an - an / ad * ad) = true := by
  rw [simB_iff] at h
  obtain ⟨ha, hd, hb, he, hc⟩ := h
  have r0 := Int.emod_nonneg an (show ad ≠ 0 by omega)
  have r1 := Int.emod_lt_of_pos an (show 0 < ad by omega)
  have s0 := Int.emod_nonneg bn (show bd ≠ 0 by omega)
  have s1 := Int.emod_lt_of_pos bn (show 0 < bd by omega)
  have ea : an = ad * (an / ad) + an % ad := (Int.mul_ediv_add_emod an ad).symm
  have eb : bn = bd * (bn / bd) + bn % bd := (Int.mul_ediv_add_emod bn bd).symm
  have f0 : 0 ≤ an / ad := Int.ediv_nonneg (by omega) (by omega)
  have f1 : an / ad ≤ an := Int.ediv_le_self _ (by omega)
  generalize an % ad = r at *
  generalize bn % bd = s at *
  generalize an / ad = f at *
  generalize bn / bd = g at *
  have rp : 0 < r := by omega
  have gf : g = f := by
    have hg : g ≤ f := by omega
    have : f ≤ g := by
      apply Decidable.by_contra
      intro hn
      have k1 : ad * bd * (g + 1) ≤ ad * bd * f := Int.mul_le_mul_of_nonneg_left (by omega) (Int.mul_nonneg (by omega) (by omega))
      have k2 : 0 < r * bd := Int.mul_pos rp (by omega)
      have k3 : s * ad < bd * ad := Int.mul_lt_mul_of_pos_right s1 (by omega)
      rw [ea, eb] at hc
      grind
    omega
  subst gf
  have e1 : bn - g * bd = s := by grind
  have e2 : an - g * ad = r := by grind
  have hc' : r * bd ≤ s * ad := by
    rw [ea, eb] at hc
    grind
  have sp : 0 < s := by
    apply Decidable.by_contra
    intro hn
    have k2 : 0 < r * bd := Int.mul_pos rp (by omega)
    have : s = 0 := by omega
    subst this
    omega
  have e3 : bd * r ≤ ad * s := by grind
  refine ⟨rfl, e1, e2, rp, r1, sp, s1, ?_⟩
  rw [simB_iff, e1, e2]
  omega
theorem simF_fuel : ∀ (n : Nat) (k k' : Nat) (an ad bn bd : Int), simB an ad bn bd = true → ad + bd ≤ n → n ≤ k → n ≤ k' → simF k an ad bn bd = simF k' an ad bn bd := by
  intro n
  induction n with
  | zero =>
    intro k k' an ad bn bd h hn _ _
    rw [simB_iff] at h
    omega
  | succ n ih =>
    intro k k' an ad bn bd h hn hk hk'
    obtain ⟨k, rfl⟩ : ∃ j, k = j + 1 := ⟨k - 1, by omega⟩
    obtain ⟨k', rfl⟩ : ∃ j, k' = j + 1 := ⟨k' - 1, by omega⟩
    simp only [simF]
    by_cases c0 : an % ad = 0
    · rw [if_pos c0, if_pos c0]
    · by_cases c1 : an / ad + 1 ≤ bn / bd
      · rw [if_neg c0, if_neg c0, if_pos c1, if_pos c1]
      · obtain ⟨_, e1, e2, _, _, _, _, hs⟩ := sim_step h c0 c1
        rw [if_neg c0, if_neg c0, if_neg c1, if_neg c1, ih k k' _ _ _ _ hs (by omega) (by omega) (by omega)]
theorem sim_unfold {an ad bn bd : Int} (h : simB an ad bn bd = true) :
    simF (ad + bd).toNat an ad bn bd = if an % ad = 0 then (an / ad, 1) else if an / ad + 1 ≤ bn / bd then (an / ad + 1, 1) else
      (an / ad * simN bd (bn - an / ad * bd) ad (an - an / ad * ad) + simD bd (bn - an / ad * bd) ad (an - an / ad * ad), simN bd (bn - an / ad * bd) ad (an - an / ad * ad)) := by
  have h' := h
  rw [simB_iff] at h'
  obtain ⟨m, hm⟩ : ∃ m, (ad + bd).toNat = m + 1 := ⟨(ad + bd).toNat - 1, by omega⟩
  rw [hm]
  simp only [simF]
  by_cases c0 : an % ad = 0
  · rw [if_pos c0, if_pos c0]
  · by_cases c1 : an / ad + 1 ≤ bn / bd
    · rw [if_neg c0, if_neg c0, if_pos c1, if_pos c1]
    · obtain ⟨_, e1, e2, p1, p2, p3, p4, hs⟩ := sim_step h c0 c1
      rw [if_neg c0, if_neg c0, if_neg c1, if_neg c1]
      simp only [simN, simD]
      rw [simF_fuel (bn - an / ad * bd + (an - an / ad * ad)).toNat m _ _ _ _ _ hs (by omega) (by omega) (Nat.le_refl _)]
/-- It lies in the range, and it is the simplest one there. -/
theorem sim_laws : ∀ (n : Nat) (an ad bn bd : Int), simB an ad bn bd = true → ad + bd ≤ n →
    1 ≤ simN an ad bn bd ∧ 1 ≤ simD an ad bn bd ∧ an * simD an ad bn bd ≤ simN an ad bn bd * ad ∧ simN an ad bn bd * bd ≤ bn * simD an ad bn bd ∧
    ∀ p q : Int, 1 ≤ q → an * q ≤ p * ad → p * bd ≤ bn * q → simN an ad bn bd ≤ p ∧ simD an ad bn bd ≤ q := by
  intro n
  induction n with
  | zero =>
    intro an ad bn bd h hn
    rw [simB_iff] at h
    omega
  | succ n ih =>
    intro an ad bn bd h hn
    have h' := h
    rw [simB_iff] at h'
    obtain ⟨ha, hd, hb, he, hc⟩ := h'
    have eu := sim_unfold h
    have r0 := Int.emod_nonneg an (show ad ≠ 0 by omega)
    have r1 := Int.emod_lt_of_pos an (show 0 < ad by omega)
    have s0 := Int.emod_nonneg bn (show bd ≠ 0 by omega)
    have ea : an = ad * (an / ad) + an % ad := (Int.mul_ediv_add_emod an ad).symm
    have eb : bn = bd * (bn / bd) + bn % bd := (Int.mul_ediv_add_emod bn bd).symm
    have f0 : 0 ≤ an / ad := Int.ediv_nonneg (by omega) (by omega)
    have eN : simN an ad bn bd = (simF (ad + bd).toNat an ad bn bd).1 := rfl
    have eD : simD an ad bn bd = (simF (ad + bd).toNat an ad bn bd).2 := rfl
    by_cases c0 : an % ad = 0
    · rw [if_pos c0] at eu
      rw [eu] at eN eD
      rw [eN, eD]
      rw [c0] at ea
      generalize an / ad = f at *
      have fp : 1 ≤ f := by
        apply Decidable.by_contra
        intro hn
        have : f = 0 := by omega
        subst this
        omega
      subst ea
      have kb : f * bd ≤ bn := Int.le_of_mul_le_mul_left (a := ad) (by clear ih; grind) (by omega)
      refine ⟨fp, Int.le_refl _, by clear ih; grind, by show f * bd ≤ bn * 1; omega, fun p q hq hp hq' => ⟨?_, hq⟩⟩
      clear ih
      have k1 : ad * (f * q) ≤ ad * p := by grind
      have k2 : f * q ≤ p := Int.le_of_mul_le_mul_left k1 (by omega)
      have k3 : f * 1 ≤ f * q := Int.mul_le_mul_of_nonneg_left hq (by omega)
      omega
    · rw [if_neg c0] at eu
      by_cases c1 : an / ad + 1 ≤ bn / bd
      · rw [if_pos c1] at eu
        rw [eu] at eN eD
        rw [eN, eD]
        generalize an / ad = f at *
        generalize bn / bd = g at *
        generalize an % ad = r at *
        generalize bn % bd = s at *
        have k0 : bd * (f + 1) ≤ bd * g := Int.mul_le_mul_of_nonneg_left c1 (by omega)
        refine ⟨by omega, Int.le_refl _, by clear ih; grind, by clear ih; grind, fun p q hq hp hq' => ⟨?_, hq⟩⟩
        clear ih
        apply Decidable.by_contra
        intro hn
        have k1 : ad * p ≤ ad * f := Int.mul_le_mul_of_nonneg_left (by omega) (by omega)
        have k2 : an * 1 ≤ an * q := Int.mul_le_mul_of_nonneg_left hq (by omega)
        grind
      · rw [if_neg c1] at eu
        rw [eu] at eN eD
        rw [eN, eD]
        obtain ⟨eg, e1, e2, p1, p2, p3, p4, hs⟩ := sim_step h c0 c1
        obtain ⟨i1, i2, i3, i4, i5⟩ := ih _ _ _ _ hs (by omega)
        rw [eg] at eb
        generalize simN bd (bn - an / ad * bd) ad (an - an / ad * ad) = N at *
        generalize simD bd (bn - an / ad * bd) ad (an - an / ad * ad) = D at *
        generalize an / ad = f at *
        have k0 : 0 ≤ f * N := Int.mul_nonneg f0 (by omega)
        clear ih
        refine ⟨by omega, i1, by grind, by grind, fun p q hq hp hq' => ?_⟩
        -- p / q = f + w / q with 0 < w
        have w0 : 1 ≤ p - f * q := by
          apply Decidable.by_contra
          intro hn
          have k1 : ad * p ≤ ad * (f * q) := Int.mul_le_mul_of_nonneg_left (by omega) (by omega)
          have k2 : 0 < an % ad * q := Int.mul_pos p1 (by omega)
          have k3 : an * q = ad * (f * q) + an % ad * q := by
            generalize an % ad = r at *
            rw [ea, Int.add_mul, Int.mul_assoc]
          rw [k3, Int.mul_comm p ad] at hp
          omega
        have := i5 q (p - f * q) w0 (by grind) (by grind)
        refine ⟨?_, this.1⟩
        have k3 : f * N ≤ f * q := Int.mul_le_mul_of_nonneg_left this.1 f0
        omega
theorem sim_pos {an ad bn bd : Int} (h : simB an ad bn bd = true) : 1 ≤ simN an ad bn bd ∧ 1 ≤ simD an ad bn bd :=
  let t := sim_laws (ad + bd).toNat an ad bn bd h (by omega); ⟨t.1, t.2.1⟩
theorem sim_in {an ad bn bd : Int} (h : simB an ad bn bd = true) : an * simD an ad bn bd ≤ simN an ad bn bd * ad ∧ simN an ad bn bd * bd ≤ bn * simD an ad bn bd :=
  let t := sim_laws (ad + bd).toNat an ad bn bd h (by omega); ⟨t.2.2.1, t.2.2.2.1⟩
theorem sim_min {an ad bn bd : Int} (h : simB an ad bn bd = true) (p q : Int) (hq : 1 ≤ q) (h1 : an * q ≤ p * ad) (h2 : p * bd ≤ bn * q) : simN an ad bn bd ≤ p ∧ simD an ad bn bd ≤ q :=
  (sim_laws (ad + bd).toNat an ad bn bd h (by omega)).2.2.2.2 p q hq h1 h2
theorem sim_le {an ad bn bd : Int} (h : simB an ad bn bd = true) : simN an ad bn bd ≤ an ∧ simD an ad bn bd ≤ ad ∧ simN an ad bn bd ≤ bn ∧ simD an ad bn bd ≤ bd := by
  have h' := h
  rw [simB_iff] at h'
  obtain ⟨ha, hd, hb, he, hc⟩ := h'
  have t1 := sim_min h an ad (by omega) (Int.le_refl _) hc
  have t2 := sim_min h bn bd (by omega) hc (Int.le_refl _)
  omega
end Go.Proofs.YtkmffnjmiechfaaDoor
