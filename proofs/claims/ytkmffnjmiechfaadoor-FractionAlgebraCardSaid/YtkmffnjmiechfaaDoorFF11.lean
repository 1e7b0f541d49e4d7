/- The fraction seat: powers. -/
import Derived.Test.YtkmffnjmiechfaaDoorFF9
namespace Go.Proofs.YtkmffnjmiechfaaDoor
open Go.Sx
set_option linter.unusedVariables false
set_option linter.unusedSimpArgs false
set_option maxRecDepth 100000


theorem fr_bad {N D : Int} (h : frOk N D ≠ true) : frN N D = 0 ∧ frD N D = 0 ∧ frE N D = 6 := by
  unfold frN frD frE
  rw [if_neg h, if_neg h, if_neg h]
  exact ⟨rfl, rfl, rfl⟩
theorem fr_e (N D : Int) : frE N D = 0 ∧ frOk N D = true ∨ frE N D = 6 ∧ frN N D = 0 ∧ frD N D = 0 := by
  by_cases h : frOk N D = true
  · left; unfold frE; rw [if_pos h]; exact ⟨rfl, h⟩
  · right; obtain ⟨a, b, c⟩ := fr_bad h; exact ⟨c, a, b⟩
theorem fr_valid {N D : Int} (hD : 0 < D) (h : frOk N D = true) : vF (frN N D) (frD N D) = true := by
  have G0 : 0 < gI N D := gI_pos (.inr hD)
  have G1 : gI N D ≤ D := gI_le_right hD
  have h' := h
  simp only [frOk, Bool.and_eq_true, decide_eq_true_eq, BD] at h'
  unfold frN frD
  rw [if_pos h, if_pos h, vF_iff]
  have t := tdiv_sgn (N := N) G0
  have a0 : 0 ≤ ab N / gI N D := Int.ediv_nonneg (ab_nonneg N) (by omega)
  have d1 : 1 ≤ D / gI N D := by
    have := Int.ediv_pos_of_pos_of_dvd hD (Int.le_of_lt G0) (gI_dvd_right N D)
    omega
  have gc : gI (N.tdiv (gI N D)) (D / gI N D) = 1 := by
    have k1 : (N.tdiv (gI N D)).natAbs = N.natAbs / Nat.gcd N.natAbs D.natAbs := by rw [Int.natAbs_tdiv]; rfl
    have k2 : (D / gI N D).natAbs = D.natAbs / Nat.gcd N.natAbs D.natAbs := by
      rw [← Int.tdiv_eq_ediv_of_nonneg (by omega), Int.natAbs_tdiv]; rfl
    have k3 : Nat.Coprime (N.natAbs / Nat.gcd N.natAbs D.natAbs) (D.natAbs / Nat.gcd N.natAbs D.natAbs) := Nat.coprime_div_gcd_div_gcd (Nat.gcd_pos_of_pos_right _ (by omega))
    show ((Nat.gcd (N.tdiv (gI N D)).natAbs (D / gI N D).natAbs : Nat) : Int) = 1
    rw [k1, k2, k3]
    rfl
  refine ⟨⟨d1, h'.2⟩, ?_, gc⟩
  rw [t]
  split <;> omega
theorem pow_valid {an ad : Int} (v : vF an ad = true) : ∀ k, powE an ad k = 0 → vF (powN an ad k) (powD an ad k) = true
  | 0, _ => by
    show vF 1 1 = true
    rw [vF_iff]
    simp [gI]
  | k + 1, h => by
    have h' : (pow3 an ad (k + 1)).2.2 = 0 := h
    show vF (pow3 an ad (k + 1)).1 (pow3 an ad (k + 1)).2.1 = true
    unfold pow3 at h' ⊢
    by_cases c : (pow3 an ad k).2.2 = 0
    · rw [if_pos c] at h' ⊢
      have v' := pow_valid v k c
      have v1 := v'
      rw [vF_iff] at v v1
      have v1' : 1 ≤ (pow3 an ad k).2.1 := v1.1.1
      refine fr_valid (Int.mul_pos (by omega) (by omega)) ?_
      rcases fr_e ((pow3 an ad k).1 * an) ((pow3 an ad k).2.1 * ad) with e | e
      · exact e.2
      · have e1 := e.1
        simp only at h'
        omega
    · rw [if_neg c] at h'
      exact absurd h' (by decide)
theorem pow_dead {an ad : Int} {m : Nat} (h : pow3 an ad m = (0, 0, 6)) : ∀ j, pow3 an ad (m + j) = (0, 0, 6)
  | 0 => h
  | j + 1 => by
    show pow3 an ad (m + j + 1) = _
    unfold pow3
    rw [pow_dead h j]
    rfl
theorem pow_next {an ad : Int} {k : Nat} (h : powE an ad k = 0) : powN an ad (k + 1) = frN (powN an ad k * an) (powD an ad k * ad) ∧ powD an ad (k + 1) = frD (powN an ad k * an) (powD an ad k * ad) ∧ powE an ad (k + 1) = frE (powN an ad k * an) (powD an ad k * ad) := by
  have h' : (pow3 an ad k).2.2 = 0 := h
  refine ⟨?_, ?_, ?_⟩
  · show (pow3 an ad (k + 1)).1 = _
    unfold pow3; rw [if_pos h']; rfl
  · show (pow3 an ad (k + 1)).2.1 = _
    unfold pow3; rw [if_pos h']; rfl
  · show (pow3 an ad (k + 1)).2.2 = _
    unfold pow3; rw [if_pos h']; rfl
theorem pow_stop {an ad : Int} {k n : Nat} (h : powE an ad k = 0) (he : frE (powN an ad k * an) (powD an ad k * ad) ≠ 0) (hk : k < n) : powN an ad n = 0 ∧ powD an ad n = 0 ∧ powE an ad n = 6 := by
  have nx := pow_next h
  have e6 : frE (powN an ad k * an) (powD an ad k * ad) = 6 ∧ frN (powN an ad k * an) (powD an ad k * ad) = 0 ∧ frD (powN an ad k * an) (powD an ad k * ad) = 0 := by
    rcases fr_e (powN an ad k * an) (powD an ad k * ad) with e | e
    · exact absurd e.1 he
    · exact e
  have d : pow3 an ad (k + 1) = (0, 0, 6) := by
    have k1 : (pow3 an ad (k + 1)).1 = 0 := nx.1.trans e6.2.1
    have k2 : (pow3 an ad (k + 1)).2.1 = 0 := nx.2.1.trans e6.2.2
    have k3 : (pow3 an ad (k + 1)).2.2 = 6 := nx.2.2.trans e6.1
    exact Prod.ext k1 (Prod.ext k2 k3)
  have := pow_dead d (n - (k + 1))
  rw [show k + 1 + (n - (k + 1)) = n by omega] at this
  unfold powN powD powE
  rw [this]
  exact ⟨rfl, rfl, rfl⟩

def b25 : T :=
  (.ite (.cmp .lss (.var 3) (.var 2)) (.need (.pre 41 (.cons (.toI (.var 4)) (.cons (.toI (.var 5)) (.cons (.toI (.var 0)) (.cons (.toI (.var 1)) .nil))))) (.ite (.cmp .eql (.app 41 (.cons (.toI (.var 4)) (.cons (.toI (.var 5)) (.cons (.toI (.var 0)) (.cons (.toI (.var 1)) .nil)))) 2) (.int 0)) (.leaf (.cont 0 [(.ar .add .i64 (.var 3) (.int 1)), (.app 41 (.cons (.toI (.var 4)) (.cons (.toI (.var 5)) (.cons (.toI (.var 0)) (.cons (.toI (.var 1)) .nil)))) 0), (.app 41 (.cons (.toI (.var 4)) (.cons (.toI (.var 5)) (.cons (.toI (.var 0)) (.cons (.toI (.var 1)) .nil)))) 1)])) (.leaf (.res [(.toI (.int 0)), (.toI (.int 0)), (.toI (.app 41 (.cons (.toI (.var 4)) (.cons (.toI (.var 5)) (.cons (.toI (.var 0)) (.cons (.toI (.var 1)) .nil)))) 2))])))) (.leaf (.res [(.toI (.var 4)), (.toI (.var 5)), (.toI (.int 0))])))
theorem t25l : fnT (cfgOf Tryd.prog sigs [23, 41] [39, 74, 83, 84] (fun f r => if f = 25 then (if r = 5 then some ⟨[(24, (.int .i64))], [(6, 0, (.int .i64)), (6, 1, (.int .i64))]⟩ else none) else none)) 25 Tryd.f25 (bodyOf Tryd.f25) ⟨[(iv 2), i1], [(iv 2), i1], none, none, none⟩ 100 =
  (.need (.pre 23 (.cons (.toI (.var 0)) (.cons (.toI (.var 1)) .nil))) (.ite (.app 23 (.cons (.toI (.var 0)) (.cons (.toI (.var 1)) .nil)) 0) (.ite (.cmp .lss (.var 2) (.int 0)) (.leaf (.res [(.toI (.int 0)), (.toI (.int 0)), (.toI (.int 1))])) (.ite (.cmp .lss (.int 64) (.var 2)) (.leaf (.res [(.toI (.int 0)), (.toI (.int 0)), (.toI (.int 1))])) (.loop [(.int 0), (.int 1), (.int 1)] b25))) (.leaf (.res [(.toI (.int 0)), (.toI (.int 0)), (.toI (.int 1))])))) := by kernel_rfl
theorem b25h (an : Int) (ad : Int) (n : Int) (k : Int) (pn : Int) (pd : Int) (it0 : List Sc → Prop) (Q : List Sc → Prop) : b25.holds Φ [.int an, .int ad, .int n, .int k, .int pn, .int pd] (loopQ it0 Φ (resQ Φ Q)) =
  (cond (cmpI .lss k n)
   (cond (mulP pn pd an ad)
   (cond (cmpI .eql (mul2 pn pd an ad) 0)
    (it0 [.int (arI .add .i64 k 1), .int (mul0 pn pd an ad), .int (mul1 pn pd an ad)])
    (Q [.int 0, .int 0, .int (mul2 pn pd an ad)]))
   False)
   (Q [.int pn, .int pd, .int 0])) := by kernel_rfl
theorem t25 (an : Int) (ad : Int) (n : Int) (Q : List Sc → Prop) : (fnT (cfgOf Tryd.prog sigs [23, 41] [39, 74, 83, 84] (fun f r => if f = 25 then (if r = 5 then some ⟨[(24, (.int .i64))], [(6, 0, (.int .i64)), (6, 1, (.int .i64))]⟩ else none) else none)) 25 Tryd.f25 (bodyOf Tryd.f25) ⟨[(iv 2), i1], [(iv 2), i1], none, none, none⟩ 100).holds Φ [.int an, .int ad, .int n] (resQ Φ Q) =
  (cond (Val0 an ad)
   (cond (cmpI .lss n 0)
    (Q [.int 0, .int 0, .int 1])
    (cond (cmpI .lss 64 n)
     (Q [.int 0, .int 0, .int 1])
     (∃ n₀, iterH (fun ρ' Q' => b25.holds Φ ρ' Q') Φ [.int an, .int ad, .int n] (resQ Φ Q) n₀ [.int 0, .int 1, .int 1])))
   (Q [.int 0, .int 0, .int 1])) := by rw [t25l]; rfl
def b26 : T :=
  (.ite (.cmp .lss (.var 3) (.var 2)) (.need (.pre 19 (.cons (.toI (.var 4)) (.cons (.toI (.var 5)) (.cons (.toI (.var 0)) (.cons (.toI (.var 1)) .nil))))) (.ite (.cmp .eql (.app 19 (.cons (.toI (.var 4)) (.cons (.toI (.var 5)) (.cons (.toI (.var 0)) (.cons (.toI (.var 1)) .nil)))) 2) (.int 0)) (.leaf (.cont 0 [(.ar .add .i64 (.var 3) (.int 1)), (.app 19 (.cons (.toI (.var 4)) (.cons (.toI (.var 5)) (.cons (.toI (.var 0)) (.cons (.toI (.var 1)) .nil)))) 0), (.app 19 (.cons (.toI (.var 4)) (.cons (.toI (.var 5)) (.cons (.toI (.var 0)) (.cons (.toI (.var 1)) .nil)))) 1)])) (.leaf (.res [(.toI (.int 0)), (.toI (.int 0)), (.toI (.app 19 (.cons (.toI (.var 4)) (.cons (.toI (.var 5)) (.cons (.toI (.var 0)) (.cons (.toI (.var 1)) .nil)))) 2))])))) (.leaf (.res [(.toI (.var 4)), (.toI (.var 5)), (.toI (.int 0))])))
theorem t26l : fnT (cfgOf Tryd.prog sigs [19] [39, 74, 83, 84] (fun f r => if f = 26 then (if r = 3 then some ⟨[(7, (.int .i64))], [(6, 0, (.int .i64)), (6, 1, (.int .i64))]⟩ else none) else none)) 26 Tryd.f26 (bodyOf Tryd.f26) ⟨[(iv 2), i1], [(iv 2), i1], none, none, none⟩ 100 =
  (.loop [(.int 0), (.int 1), (.int 1)] b26) := by kernel_rfl
theorem b26h (an : Int) (ad : Int) (n : Int) (k : Int) (pn : Int) (pd : Int) (it0 : List Sc → Prop) (Q : List Sc → Prop) : b26.holds Φ [.int an, .int ad, .int n, .int k, .int pn, .int pd] (loopQ it0 Φ (resQ Φ Q)) =
  (cond (cmpI .lss k n)
   (cond (rMulP pn pd an ad)
   (cond (cmpI .eql (rMul2 pn pd an ad) 0)
    (it0 [.int (arI .add .i64 k 1), .int (rMul0 pn pd an ad), .int (rMul1 pn pd an ad)])
    (Q [.int 0, .int 0, .int (rMul2 pn pd an ad)]))
   False)
   (Q [.int pn, .int pd, .int 0])) := by kernel_rfl
theorem t26 (an : Int) (ad : Int) (n : Int) (Q : List Sc → Prop) : (fnT (cfgOf Tryd.prog sigs [19] [39, 74, 83, 84] (fun f r => if f = 26 then (if r = 3 then some ⟨[(7, (.int .i64))], [(6, 0, (.int .i64)), (6, 1, (.int .i64))]⟩ else none) else none)) 26 Tryd.f26 (bodyOf Tryd.f26) ⟨[(iv 2), i1], [(iv 2), i1], none, none, none⟩ 100).holds Φ [.int an, .int ad, .int n] (resQ Φ Q) =
  (∃ n₀, iterH (fun ρ' Q' => b26.holds Φ ρ' Q') Φ [.int an, .int ad, .int n] (resQ Φ Q) n₀ [.int 0, .int 1, .int 1]) := by rw [t26l]; rfl
theorem c25 : CT Tryd.prog sigs Φ 25 :=
  ct_of [23, 41] [39, 74, 83, 84] (fun f r => if f = 25 then (if r = 5 then some ⟨[(24, (.int .i64))], [(6, 0, (.int .i64)), (6, 1, (.int .i64))]⟩ else none) else none) 100 mixed rfl Tryd.func25 (by kernel_rfl) (forall_cons c23 (forall_cons c41 forall_nil)) fun l0 hl0 hp => by
    obtain ⟨an, l1, rfl, hl1⟩ := canon_int hl0
    obtain ⟨ad, l2, rfl, hl2⟩ := canon_int hl1
    obtain ⟨n, l3, rfl, hl3⟩ := canon_int hl2
    cases canon_nil hl3
    clear hl3 hl2 hl1 hl0
    show T.holds _ _ _ (resQ Φ fun rs => rs = [.int (Pow0 an ad n), .int (Pow1 an ad n), .int (Pow2 an ad n)])
    rw [t25]
    simp only [Val0, lss_d]
    by_cases v1 : vF an ad = true
    · rw [v1]
      by_cases c1 : n < 0
      · have hn : ¬ (vF an ad = true ∧ 0 ≤ n ∧ n ≤ 64) := fun h => by omega
        rw [decide_eq_true c1]
        simp only [Pow0, Pow1, Pow2, if_neg hn]
        trivial
      · by_cases c2 : 64 < n
        · have hn : ¬ (vF an ad = true ∧ 0 ≤ n ∧ n ≤ 64) := fun h => by omega
          rw [decide_eq_false c1, decide_eq_true c2]
          simp only [Pow0, Pow1, Pow2, if_neg hn]
          trivial
        · have hc : vF an ad = true ∧ 0 ≤ n ∧ n ≤ 64 := ⟨v1, by omega, by omega⟩
          rw [decide_eq_false c1, decide_eq_false c2]
          simp only [Pow0, Pow1, Pow2, if_pos hc]
          refine iter_inv (I := fun j vs => ∃ k : Nat, vs = [.int (k : Int), .int (powN an ad k), .int (powD an ad k)] ∧ k + j = n.toNat ∧ powE an ad k = 0) ?_ n.toNat _ ⟨0, rfl, by omega, rfl⟩
          rintro j vs ⟨k, rfl, hk, he⟩ it hit
          show b25.holds Φ [.int an, .int ad, .int n, .int (k : Int), .int (powN an ad k), .int (powD an ad k)] _
          rw [b25h]
          rw [lss_d]
          by_cases c : (k : Int) < n
          · have hp' : mulP (powN an ad k) (powD an ad k) an ad = true := by
              unfold mulP
              rw [pow_valid v1 k he, v1]
              rfl
            have nx := pow_next he
            rw [decide_eq_true c, hp', eql_d]
            by_cases z : mul2 (powN an ad k) (powD an ad k) an ad = 0
            · rw [decide_eq_true z, ar_add (by omega) (by omega)]
              cases j with
              | zero => omega
              | succ j =>
                refine hit j _ rfl ⟨k + 1, ?_, by omega, nx.2.2.trans z⟩
                rw [nx.1, nx.2.1]
                rfl
            · rw [decide_eq_false z]
              obtain ⟨s1, s2, s3⟩ := pow_stop (n := n.toNat) he z (by omega)
              rw [s1, s2, s3]
              show [Sc.int 0, .int 0, .int (mul2 (powN an ad k) (powD an ad k) an ad)] = _
              have : mul2 (powN an ad k) (powD an ad k) an ad = 6 := by
                rcases fr_e (powN an ad k * an) (powD an ad k * ad) with e | e
                · exact absurd e.1 z
                · exact e.1
              rw [this]
          · rw [decide_eq_false c]
            have : k = n.toNat := by omega
            subst this
            rw [he]
            rfl
    · have hn : ¬ (vF an ad = true ∧ 0 ≤ n ∧ n ≤ 64) := fun h => v1 h.1
      have v1' : vF an ad = false := by simpa using v1
      rw [v1']
      simp only [Pow0, Pow1, Pow2, if_neg hn]
      trivial

theorem c26 : CT Tryd.prog sigs Φ 26 :=
  ct_of [19] [39, 74, 83, 84] (fun f r => if f = 26 then (if r = 3 then some ⟨[(7, (.int .i64))], [(6, 0, (.int .i64)), (6, 1, (.int .i64))]⟩ else none) else none) 100 mixed rfl Tryd.func26 (by kernel_rfl) (forall_cons c19 forall_nil) fun l0 hl0 hp => by
    obtain ⟨an, l1, rfl, hl1⟩ := canon_int hl0
    obtain ⟨ad, l2, rfl, hl2⟩ := canon_int hl1
    obtain ⟨n, l3, rfl, hl3⟩ := canon_int hl2
    cases canon_nil hl3
    clear hl3 hl2 hl1 hl0
    have hp : rPowP an ad n = true := hp
    show T.holds _ _ _ (resQ Φ fun rs => rs = [.int (rPow0 an ad n), .int (rPow1 an ad n), .int (rPow2 an ad n)])
    rw [t26]
    simp only [rPowP, Bool.and_eq_true, decide_eq_true_eq] at hp
    obtain ⟨⟨v1, n0⟩, n1⟩ := hp
    simp only [rPow0, rPow1, rPow2]
    refine iter_inv (I := fun j vs => ∃ k : Nat, vs = [.int (k : Int), .int (powN an ad k), .int (powD an ad k)] ∧ k + j = n.toNat ∧ powE an ad k = 0) ?_ n.toNat _ ⟨0, rfl, by omega, rfl⟩
    rintro j vs ⟨k, rfl, hk, he⟩ it hit
    show b26.holds Φ [.int an, .int ad, .int n, .int (k : Int), .int (powN an ad k), .int (powD an ad k)] _
    rw [b26h]
    rw [lss_d]
    by_cases c : (k : Int) < n
    · have hp' : rMulP (powN an ad k) (powD an ad k) an ad = true := by
        unfold rMulP
        rw [pow_valid v1 k he, v1]
        rfl
      have nx := pow_next he
      rw [decide_eq_true c, hp', eql_d]
      by_cases z : rMul2 (powN an ad k) (powD an ad k) an ad = 0
      · rw [decide_eq_true z, ar_add (by omega) (by omega)]
        cases j with
        | zero => omega
        | succ j =>
          refine hit j _ rfl ⟨k + 1, ?_, by omega, nx.2.2.trans z⟩
          rw [nx.1, nx.2.1]
          rfl
      · rw [decide_eq_false z]
        obtain ⟨s1, s2, s3⟩ := pow_stop (n := n.toNat) he z (by omega)
        rw [s1, s2, s3]
        show [Sc.int 0, .int 0, .int (rMul2 (powN an ad k) (powD an ad k) an ad)] = _
        have : rMul2 (powN an ad k) (powD an ad k) an ad = 6 := by
          rcases fr_e (powN an ad k * an) (powD an ad k * ad) with e | e
          · exact absurd e.1 z
          · exact e.1
        rw [this]
    · rw [decide_eq_false c]
      have : k = n.toNat := by omega
      subst this
      rw [he]
      rfl

end Go.Proofs.YtkmffnjmiechfaaDoor
