/- The fraction seat: functions that call themselves. -/
import Derived.Test.YtkmffnjmiechfaaDoorFF9
import Derived.Test.YtkmffnjmiechfaaDoorFR
import Derived.Test.YtkmffnjmiechfaaDoorFM3
namespace Go.Proofs.YtkmffnjmiechfaaDoor
open Go.Sx
set_option linter.unusedVariables false
set_option linter.unusedSimpArgs false
set_option maxRecDepth 100000


def m32 : List Sc → Nat
  | [.int n, .int _] => if n < 0 then 1 else 0
  | _ => 0
def rRouQ (k : Nat) (n d : Int) : Bool := rRouP n d && decide ((if n < 0 then 1 else 0) < k)
def m59 : List Sc → Nat
  | [.int _, .int ad, .int _, .int bd] => (ad + bd).toNat
  | _ => 0
def simQ (k : Nat) (an ad bn bd : Int) : Bool := simP an ad bn bd && decide ((ad + bd).toNat < k)
def m60 : List Sc → Nat
  | [.int _, .int ad, .int _, .int bd] => (ad + bd).toNat
  | _ => 0
def btwQ (k : Nat) (an ad bn bd : Int) : Bool := btwP an ad bn bd && decide ((ad + bd).toNat < k)
theorem simB_mirror {an ad bn bd : Int} (v1 : vF an ad = true) (v2 : vF bn bd = true) (h : an * bd ≤ bn * ad) (hb : bn < 0) : simB (-bn) bd (-an) ad = true := by
  rw [vF_iff] at v1 v2
  rw [simB_iff]
  have ha : an < 0 := by
    apply Decidable.by_contra
    intro hn
    have k1 : 0 ≤ an * bd := Int.mul_nonneg (by omega) (by omega)
    have k2 : bn * ad < 0 := Int.mul_neg_of_neg_of_pos hb (by omega)
    omega
  rw [Int.neg_mul, Int.neg_mul]
  omega
theorem simB_pos {an ad bn bd : Int} (v1 : vF an ad = true) (v2 : vF bn bd = true) (h : an * bd ≤ bn * ad) (ha : 0 < an) : simB an ad bn bd = true := by
  rw [vF_iff] at v1 v2
  rw [simB_iff]
  have hb : 0 < bn := by
    apply Decidable.by_contra
    intro hn
    have k1 : 0 < an * bd := Int.mul_pos ha (by omega)
    have k2 : bn * ad ≤ 0 := Int.mul_nonpos_of_nonpos_of_nonneg (by omega) (by omega)
    omega
  omega

theorem t32 (k : Nat) (n : Int) (d : Int) (Q : List Sc → Prop) : (fnT (cfgOf Tryd.prog sigs [32] [39, 74, 83, 84] noLoop) 32 Tryd.f32 (bodyOf Tryd.f32) ⟨[(iv 2)], [i1], none, none, none⟩ 100).holds (ΦR Φ 32 m32 k) [.int n, .int d] (resQ (ΦR Φ 32 m32 k) Q) =
  (cond (cmpI .lss n 0)
   (cond (rRouQ k (arI .sub .i64 0 n) d)
   (Q [.int (arI .sub .i64 0 (rRou0 (arI .sub .i64 0 n) d))])
   False)
   (cond (!(cmpI .eql d 0))
   (cond (!(cmpI .eql d 0))
   (cond (cmpI .lss (arI .mul .i64 2 (arI .rem .i64 n d)) d)
    (Q [.int (arI .quo .i64 n d)])
    (Q [.int (arI .add .i64 (arI .quo .i64 n d) 1)]))
   False)
   False)) := by kernel_rfl
theorem t59 (n : Nat) (an : Int) (ad : Int) (bn : Int) (bd : Int) (Q : List Sc → Prop) : (fnT (cfgOf Tryd.prog sigs [59] [39, 74, 83, 84] noLoop) 59 Tryd.f59 (bodyOf Tryd.f59) ⟨[i1, i1, i1, i1], [i1, i1], none, none, none⟩ 100).holds (ΦR Φ 59 m59 n) [.int an, .int ad, .int bn, .int bd] (resQ (ΦR Φ 59 m59 n) Q) =
  (cond (!(cmpI .eql ad 0))
  (cond (!(cmpI .eql ad 0))
  (cond (cmpI .eql (arI .rem .i64 an ad) 0)
   (Q [.int (arI .quo .i64 an ad), .int 1])
   (cond (!(cmpI .eql bd 0))
   (cond (cmpI .lss (arI .quo .i64 bn bd) (arI .add .i64 (arI .quo .i64 an ad) 1))
    (cond (simQ n bd (arI .sub .i64 bn (arI .mul .i64 (arI .quo .i64 an ad) bd)) ad (arI .sub .i64 an (arI .mul .i64 (arI .quo .i64 an ad) ad)))
    (Q [.int (arI .add .i64 (arI .mul .i64 (arI .quo .i64 an ad) (sim0 bd (arI .sub .i64 bn (arI .mul .i64 (arI .quo .i64 an ad) bd)) ad (arI .sub .i64 an (arI .mul .i64 (arI .quo .i64 an ad) ad)))) (sim1 bd (arI .sub .i64 bn (arI .mul .i64 (arI .quo .i64 an ad) bd)) ad (arI .sub .i64 an (arI .mul .i64 (arI .quo .i64 an ad) ad)))), .int (sim0 bd (arI .sub .i64 bn (arI .mul .i64 (arI .quo .i64 an ad) bd)) ad (arI .sub .i64 an (arI .mul .i64 (arI .quo .i64 an ad) ad)))])
    False)
    (Q [.int (arI .add .i64 (arI .quo .i64 an ad) 1), .int 1]))
   False))
  False)
  False) := by kernel_rfl
theorem t60 (n : Nat) (an : Int) (ad : Int) (bn : Int) (bd : Int) (Q : List Sc → Prop) : (fnT (cfgOf Tryd.prog sigs [31, 60] [39, 74, 83, 84] noLoop) 60 Tryd.f60 (bodyOf Tryd.f60) ⟨[(iv 2), (iv 2)], [(iv 2)], none, none, none⟩ 100).holds (ΦR Φ 60 m60 n) [.int an, .int ad, .int bn, .int bd] (resQ (ΦR Φ 60 m60 n) Q) =
  (cond (rFloP an ad)
  (cond (cmpI .eql ad 1)
   (Q [.int an, .int ad])
   (cond (rFloP bn bd)
   (cond (cmpI .lss (rFlo0 an ad) (rFlo0 bn bd))
    (Q [.int (arI .add .i64 (rFlo0 an ad) 1), .int 1])
    (cond (btwQ n bd (arI .sub .i64 bn (arI .mul .i64 (rFlo0 an ad) bd)) ad (arI .sub .i64 an (arI .mul .i64 (rFlo0 an ad) ad)))
    (Q [.int (arI .add .i64 (arI .mul .i64 (rFlo0 an ad) (btw0 bd (arI .sub .i64 bn (arI .mul .i64 (rFlo0 an ad) bd)) ad (arI .sub .i64 an (arI .mul .i64 (rFlo0 an ad) ad)))) (btw1 bd (arI .sub .i64 bn (arI .mul .i64 (rFlo0 an ad) bd)) ad (arI .sub .i64 an (arI .mul .i64 (rFlo0 an ad) ad)))), .int (btw0 bd (arI .sub .i64 bn (arI .mul .i64 (rFlo0 an ad) bd)) ad (arI .sub .i64 an (arI .mul .i64 (rFlo0 an ad) ad)))])
    False))
   False))
  False) := by kernel_rfl
theorem c32 : CT Tryd.prog sigs Φ 32 :=
  rec_ct [32] [39, 74, 83, 84] noLoop 100 mixed rfl Tryd.func32 (by kernel_rfl) m32 (forall_cons (fun h => absurd rfl h) forall_nil) fun k l0 hl0 hp hm => by
    obtain ⟨n, l1, rfl, hl1⟩ := canon_int hl0
    obtain ⟨d, l2, rfl, hl2⟩ := canon_int hl1
    cases canon_nil hl2
    clear hl2 hl1 hl0
    have hp : rRouP n d = true := hp
    show T.holds _ _ _ (resQ _ fun rs => rs = [.int (rRou0 n d)])
    rw [t32]
    simp only [rRouP, Bool.and_eq_true, decide_eq_true_eq, BD] at hp
    obtain ⟨⟨⟨d0, d1⟩, n0⟩, n1⟩ := hp
    rw [lss_d]
    simp only [rRou0]
    by_cases c : n < 0
    · have hq : rRouQ k (-n) d = true := by
        have hm' : (if n < 0 then 1 else 0) ≤ k := hm
        rw [if_pos c] at hm'
        unfold rRouQ rRouP
        simp only [Bool.and_eq_true, decide_eq_true_eq, BD]
        rw [if_neg (by omega)]
        omega
      have b0 : 0 ≤ rp (-n) d := Int.ediv_nonneg (by omega) (by omega)
      have b1 : rp (-n) d ≤ -n + 1 := by
        rw [rp_eq (by omega) (by omega)]
        have := Int.ediv_le_self (a := -n) d (by omega)
        split <;> omega
      rw [decide_eq_true c, ar_sub (a := 0) (b := n) (by omega) (by omega), Int.zero_sub, hq]
      have e1 : rnd (-n) d = rp (-n) d := by unfold rnd; rw [if_neg (by omega)]
      have e2 : rnd n d = -rp (-n) d := by unfold rnd; rw [if_pos c]
      rw [e1, e2, ar_sub (by omega) (by omega), Int.zero_sub]
      rfl
    · have e1 : (!(cmpI .eql d 0)) = true := by rw [eql_d, decide_eq_false (by omega)]; rfl
      have e2 : rnd n d = rp n d := by unfold rnd; rw [if_neg c]
      have r0 := Int.emod_nonneg n (show d ≠ 0 by omega)
      have r1 := Int.emod_lt_of_pos n (show 0 < d by omega)
      have q0 : 0 ≤ n / d := Int.ediv_nonneg (by omega) (by omega)
      have q1 : n / d ≤ n := Int.ediv_le_self _ (by omega)
      rw [decide_eq_false c, e1, rem_nn .i64 (by omega), quo_nn (by omega) (by omega) (by omega), ar_mul (by omega) (by omega), ar_add (by omega) (by omega), lss_d, e2, rp_eq (by omega) (by omega)]
      generalize n % d = r at *
      generalize n / d = q at *
      by_cases c1 : r < d - r
      · rw [if_pos c1, decide_eq_true (by omega)]; rfl
      · rw [if_neg c1, decide_eq_false (by omega)]; rfl

theorem c59 : CT Tryd.prog sigs Φ 59 :=
  rec_ct [59] [39, 74, 83, 84] noLoop 100 mixed rfl Tryd.func59 (by kernel_rfl) m59 (forall_cons (fun h => absurd rfl h) forall_nil) fun n l0 hl0 hp hm => by
    obtain ⟨an, l1, rfl, hl1⟩ := canon_int hl0
    obtain ⟨ad, l2, rfl, hl2⟩ := canon_int hl1
    obtain ⟨bn, l3, rfl, hl3⟩ := canon_int hl2
    obtain ⟨bd, l4, rfl, hl4⟩ := canon_int hl3
    cases canon_nil hl4
    clear hl4 hl3 hl2 hl1 hl0
    have hp : simP an ad bn bd = true := hp
    show T.holds _ _ _ (resQ _ fun rs => rs = [.int (sim0 an ad bn bd), .int (sim1 an ad bn bd)])
    rw [t59]
    have hB : simB an ad bn bd = true := hp
    have hB' := hB
    rw [simB_iff] at hB'
    obtain ⟨ha, hd, hb, he, hc⟩ := hB'
    have hm : (ad + bd).toNat ≤ n := hm
    have eu := sim_unfold hB
    have eN : simN an ad bn bd = (simF (ad + bd).toNat an ad bn bd).1 := rfl
    have eD : simD an ad bn bd = (simF (ad + bd).toNat an ad bn bd).2 := rfl
    have e1 : (!(cmpI .eql ad 0)) = true := by rw [eql_d, decide_eq_false (by omega)]; rfl
    have e2 : (!(cmpI .eql bd 0)) = true := by rw [eql_d, decide_eq_false (by omega)]; rfl
    have f0 : 0 ≤ an / ad := Int.ediv_nonneg (by omega) (by omega)
    have f1 : an / ad ≤ an := Int.ediv_le_self _ (by omega)
    rw [e1, e2, rem_nn .i64 (by omega), quo_nn (a := an) (by omega) (by omega) (by omega), quo_nn (a := bn) (by omega) (by omega) (by omega), ar_add (a := an / ad) (b := 1) (by omega) (by omega), eql_d, lss_d]
    by_cases c0 : an % ad = 0
    · rw [if_pos c0] at eu
      rw [eu] at eN eD
      rw [decide_eq_true c0]
      show [Sc.int (an / ad), .int 1] = [.int (simN an ad bn bd), .int (simD an ad bn bd)]
      rw [eN, eD]
    · rw [if_neg c0] at eu
      rw [decide_eq_false c0]
      by_cases c1 : an / ad + 1 ≤ bn / bd
      · rw [if_pos c1] at eu
        rw [eu] at eN eD
        rw [decide_eq_false (by omega)]
        show [Sc.int (an / ad + 1), .int 1] = [.int (simN an ad bn bd), .int (simD an ad bn bd)]
        rw [eN, eD]
      · rw [if_neg c1] at eu
        rw [eu] at eN eD
        obtain ⟨eg, g1, g2, p1, p2, p3, p4, hs⟩ := sim_step hB c0 c1
        have t1 := sim_pos hs
        have t2 := sim_le hB
        have eN' : simN an ad bn bd = an / ad * simN bd (bn - an / ad * bd) ad (an - an / ad * ad) + simD bd (bn - an / ad * bd) ad (an - an / ad * ad) := eN
        have k0 : 0 ≤ an / ad * simN bd (bn - an / ad * bd) ad (an - an / ad * ad) := Int.mul_nonneg f0 (by omega)
        have s0 : simQ n bd (bn - an / ad * bd) ad (an - an / ad * ad) = true := by
          unfold simQ simP
          rw [hs, decide_eq_true (by omega)]
          rfl
        rw [decide_eq_true (by omega), ar_mul (a := an / ad) (b := bd) (by omega) (by omega), ar_mul (a := an / ad) (b := ad) (by omega) (by omega), ar_sub (a := bn) (by omega) (by omega), ar_sub (a := an) (by omega) (by omega), s0]
        simp only [sim0, sim1]
        rw [ar_mul (a := an / ad) (by omega) (by omega), ar_add (by omega) (by omega)]
        show [Sc.int _, .int _] = [.int (simN an ad bn bd), .int (simD an ad bn bd)]
        rw [eN', eD]

theorem c60 : CT Tryd.prog sigs Φ 60 :=
  rec_ct [31, 60] [39, 74, 83, 84] noLoop 100 mixed rfl Tryd.func60 (by kernel_rfl) m60 (forall_cons (fun _ => c31) (forall_cons (fun h => absurd rfl h) forall_nil)) fun n l0 hl0 hp hm => by
    obtain ⟨an, l1, rfl, hl1⟩ := canon_int hl0
    obtain ⟨ad, l2, rfl, hl2⟩ := canon_int hl1
    obtain ⟨bn, l3, rfl, hl3⟩ := canon_int hl2
    obtain ⟨bd, l4, rfl, hl4⟩ := canon_int hl3
    cases canon_nil hl4
    clear hl4 hl3 hl2 hl1 hl0
    have hp : btwP an ad bn bd = true := hp
    show T.holds _ _ _ (resQ _ fun rs => rs = [.int (btw0 an ad bn bd), .int (btw1 an ad bn bd)])
    rw [t60]
    simp only [btwP, Bool.and_eq_true, decide_eq_true_eq] at hp
    obtain ⟨⟨hB, ga⟩, gb⟩ := hp
    have hB' := hB
    rw [simB_iff] at hB'
    obtain ⟨ha, hd, hb, he, hc⟩ := hB'
    have hm : (ad + bd).toNat ≤ n := hm
    have eu := sim_unfold hB
    have eN : simN an ad bn bd = (simF (ad + bd).toNat an ad bn bd).1 := rfl
    have eD : simD an ad bn bd = (simF (ad + bd).toNat an ad bn bd).2 := rfl
    have e1 : rFloP an ad = true := by unfold rFloP; simp only [Bool.and_eq_true, decide_eq_true_eq, BD]; omega
    have e2 : rFloP bn bd = true := by unfold rFloP; simp only [Bool.and_eq_true, decide_eq_true_eq, BD]; omega
    have f0 : 0 ≤ an / ad := Int.ediv_nonneg (by omega) (by omega)
    have f1 : an / ad ≤ an := Int.ediv_le_self _ (by omega)
    rw [e1, e2]
    simp only [rFlo0, eql_d, lss_d]
    rw [ar_add (a := an / ad) (b := 1) (by omega) (by omega)]
    by_cases c0 : an % ad = 0
    · have ad1 : ad = 1 := by
        have := gI_step (x := an) (y := ad) (by omega) (by omega)
        rw [c0, gI_zero (by omega), ga] at this
        exact this
      subst ad1
      rw [if_pos c0] at eu
      rw [eu] at eN eD
      rw [decide_eq_true rfl]
      show [Sc.int an, .int 1] = [.int (simN an 1 bn bd), .int (simD an 1 bn bd)]
      rw [eN, eD, Int.ediv_one]
    · rw [if_neg c0] at eu
      rw [decide_eq_false (p := ad = 1) (fun h => c0 (by rw [h]; exact Int.emod_one an))]
      by_cases c1 : an / ad + 1 ≤ bn / bd
      · rw [if_pos c1] at eu
        rw [eu] at eN eD
        rw [decide_eq_true (by omega)]
        show [Sc.int (an / ad + 1), .int 1] = [.int (simN an ad bn bd), .int (simD an ad bn bd)]
        rw [eN, eD]
      · rw [if_neg c1] at eu
        rw [eu] at eN eD
        obtain ⟨eg, g1, g2, p1, p2, p3, p4, hs⟩ := sim_step hB c0 c1
        have t1 := sim_pos hs
        have t2 := sim_le hB
        have eN' : simN an ad bn bd = an / ad * simN bd (bn - an / ad * bd) ad (an - an / ad * ad) + simD bd (bn - an / ad * bd) ad (an - an / ad * ad) := eN
        have k0 : 0 ≤ an / ad * simN bd (bn - an / ad * bd) ad (an - an / ad * ad) := Int.mul_nonneg f0 (by omega)
        have s0 : btwQ n bd (bn - an / ad * bd) ad (an - an / ad * ad) = true := by
          unfold btwQ btwP
          rw [hs, decide_eq_true (p := (bn - an / ad * bd + (an - an / ad * ad)).toNat < n) (by omega), g1, g2, gI_step (by omega) (by omega), gI_step (by omega) (by omega), ga, gb]
          rfl
        rw [decide_eq_false (by omega), ar_mul (a := an / ad) (b := bd) (by omega) (by omega), ar_mul (a := an / ad) (b := ad) (by omega) (by omega), ar_sub (a := bn) (by omega) (by omega), ar_sub (a := an) (by omega) (by omega), s0]
        simp only [btw0, btw1]
        rw [ar_mul (a := an / ad) (by omega) (by omega), ar_add (by omega) (by omega)]
        show [Sc.int _, .int _] = [.int (simN an ad bn bd), .int (simD an ad bn bd)]
        rw [eN', eD]

theorem c33 : CT Tryd.prog sigs Φ 33 :=
  ct_of [23, 27, 59] [39, 74, 83, 84] noLoop 100 mixed rfl Tryd.func33 (by kernel_rfl) (forall_cons c23 (forall_cons c27 (forall_cons c59 forall_nil))) fun l0 hl0 hp => by
    obtain ⟨an, l1, rfl, hl1⟩ := canon_int hl0
    obtain ⟨ad, l2, rfl, hl2⟩ := canon_int hl1
    obtain ⟨bn, l3, rfl, hl3⟩ := canon_int hl2
    obtain ⟨bd, l4, rfl, hl4⟩ := canon_int hl3
    cases canon_nil hl4
    clear hl4 hl3 hl2 hl1 hl0
    show T.holds _ _ _ (resQ Φ fun rs => rs = [.int (Sim0 an ad bn bd), .int (Sim1 an ad bn bd), .int (Sim2 an ad bn bd)])
    rw [t33]
    simp only [Val0, Sim0, Sim1, Sim2, Cmp0]
    by_cases v1 : vF an ad = true
    · by_cases v2 : vF bn bd = true
      · have v1' := v1
        have v2' := v2
        rw [vF_iff] at v1' v2'
        rw [v1, v2, if_pos (show (true && true) = true from rfl), lss_d, lss_d, lss_d]
        by_cases c0 : an * bd ≤ bn * ad
        · have e0 : ¬ 0 < cmp3 (an * bd) (bn * ad) := by unfold cmp3; (repeat' split) <;> omega
          rw [decide_eq_false e0]
          by_cases c1 : 0 < an
          · have hs : simP an ad bn bd = true := simB_pos v1 v2 c0 c1
            rw [decide_eq_true c1, hs]
            simp [c0, c1]
          · rw [decide_eq_false c1]
            by_cases c2 : bn < 0
            · have hB := simB_mirror v1 v2 c0 c2
              have hs : simP (-bn) bd (-an) ad = true := hB
              have t1 := sim_pos hB
              have t2 := sim_le hB
              rw [decide_eq_true c2, ar_sub (a := 0) (b := bn) (by omega) (by omega), ar_sub (a := 0) (b := an) (by omega) (by omega), Int.zero_sub, Int.zero_sub, hs]
              simp only [sim0, sim1]
              rw [ar_sub (by omega) (by omega), Int.zero_sub]
              simp [c0, c1, c2]
            · rw [decide_eq_false c2]
              simp [c0, c1, c2]
        · have e0 : 0 < cmp3 (an * bd) (bn * ad) := by unfold cmp3; (repeat' split) <;> omega
          rw [decide_eq_true e0]
          simp [c0]
      · have v2' : vF bn bd = false := by simpa using v2
        rw [v1, v2']
        simp
    · have v1' : vF an ad = false := by simpa using v1
      rw [v1']
      simp

theorem c34 : CT Tryd.prog sigs Φ 34 :=
  ct_of [60] [39, 74, 83, 84] noLoop 100 mixed rfl Tryd.func34 (by kernel_rfl) (forall_cons c60 forall_nil) fun l0 hl0 hp => by
    obtain ⟨an, l1, rfl, hl1⟩ := canon_int hl0
    obtain ⟨ad, l2, rfl, hl2⟩ := canon_int hl1
    obtain ⟨bn, l3, rfl, hl3⟩ := canon_int hl2
    obtain ⟨bd, l4, rfl, hl4⟩ := canon_int hl3
    cases canon_nil hl4
    clear hl4 hl3 hl2 hl1 hl0
    have hp : rSimP an ad bn bd = true := hp
    show T.holds _ _ _ (resQ Φ fun rs => rs = [.int (rSim0 an ad bn bd), .int (rSim1 an ad bn bd)])
    rw [t34]
    simp only [rSimP, Bool.and_eq_true, decide_eq_true_eq] at hp
    obtain ⟨⟨v1, v2⟩, c0⟩ := hp
    have v1' := v1
    have v2' := v2
    rw [vF_iff] at v1' v2'
    rw [lss_d, lss_d]
    simp only [rSim0, rSim1]
    by_cases c1 : 0 < an
    · have hs : btwP an ad bn bd = true := by
        unfold btwP
        rw [simB_pos v1 v2 c0 c1, v1'.2.2, v2'.2.2]
        rfl
      rw [decide_eq_true c1, hs]
      simp [c1]
    · rw [decide_eq_false c1]
      by_cases c2 : bn < 0
      · have hB := simB_mirror v1 v2 c0 c2
        have hs : btwP (-bn) bd (-an) ad = true := by
          unfold btwP
          rw [hB, gI_neg, gI_neg, v1'.2.2, v2'.2.2]
          rfl
        have t1 := sim_pos hB
        have t2 := sim_le hB
        rw [decide_eq_true c2, ar_sub (a := 0) (b := bn) (by omega) (by omega), ar_sub (a := 0) (b := an) (by omega) (by omega), Int.zero_sub, Int.zero_sub, hs]
        simp only [btw0, btw1]
        rw [ar_sub (by omega) (by omega), Int.zero_sub]
        simp [c1, c2]
      · rw [decide_eq_false c2]
        simp [c1, c2]

end Go.Proofs.YtkmffnjmiechfaaDoor
