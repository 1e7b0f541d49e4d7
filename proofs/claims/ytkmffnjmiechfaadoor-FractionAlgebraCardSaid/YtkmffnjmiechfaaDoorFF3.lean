/- The fraction seat: contracts, the second part. -/
import Derived.Test.YtkmffnjmiechfaaDoorFF2
import Derived.Shelf.Spec.BitsCarry
namespace Go.Proofs.YtkmffnjmiechfaaDoor
open Go.Sx
set_option linter.unusedVariables false
set_option linter.unusedSimpArgs false
set_option maxRecDepth 100000

theorem c70 : CT Tryd.prog sigs Φ 70 := by
  intro sg hs
  have hs' : some (⟨[(.one (.int .u64)), (.one (.int .u64)), (.one (.int .u64))], [(.one (.int .u64)), (.one (.int .u64))], none, none, none⟩ : Sig) = some sg := hs
  cases hs'
  refine ⟨fun _ _ => trivial, ?_⟩
  intro l w hg hcan hp
  have hcan0 : Rel2 K.is _ l := hcan
  obtain ⟨a, l1, rfl, k1⟩ := canon_int hcan0
  obtain ⟨b, l2, rfl, k2⟩ := canon_int k1
  obtain ⟨c, l3, rfl, k3⟩ := canon_int k2
  cases canon_nil k3
  have hp' : (uu a && uu b && decide (0 ≤ c) && decide (c ≤ 1)) = true := hp
  simp only [Bool.and_eq_true, uu_iff, decide_eq_true_eq] at hp'
  rw [if_neg (show ¬ callable Tryd.prog 70 = true by rw [show callable Tryd.prog 70 = false by kernel_rfl]; exact Bool.false_ne_true)]
  show (callFunc 70 #[.int .u64 a, .int .u64 b, .int .u64 c]).run Tryd.prog w = _
  rw [run_callFunc_extern Tryd.func70 (by kernel_rfl) (by kernel_rfl) (by kernel_rfl) (e := add64Entry) (by kernel_rfl), run_add64 a b c (by omega) (by omega) (by omega) (by omega)]
  rfl
theorem c72 : CT Tryd.prog sigs Φ 72 := by
  intro sg hs
  have hs' : some (⟨[(.one (.int .u64)), (.one (.int .u64)), (.one (.int .u64))], [(.one (.int .u64)), (.one (.int .u64))], none, none, none⟩ : Sig) = some sg := hs
  cases hs'
  refine ⟨fun _ _ => trivial, ?_⟩
  intro l w hg hcan hp
  have hcan0 : Rel2 K.is _ l := hcan
  obtain ⟨a, l1, rfl, k1⟩ := canon_int hcan0
  obtain ⟨b, l2, rfl, k2⟩ := canon_int k1
  obtain ⟨c, l3, rfl, k3⟩ := canon_int k2
  cases canon_nil k3
  have hp' : (uu a && uu b && decide (0 ≤ c) && decide (c ≤ 1)) = true := hp
  simp only [Bool.and_eq_true, uu_iff, decide_eq_true_eq] at hp'
  rw [if_neg (show ¬ callable Tryd.prog 72 = true by rw [show callable Tryd.prog 72 = false by kernel_rfl]; exact Bool.false_ne_true)]
  have h := run_sub64 (P := Tryd.prog) a.toNat b.toNat c.toNat (by omega) w
  have ea : ((a.toNat : Nat) : Int) = a := by omega
  have eb : ((b.toNat : Nat) : Int) = b := by omega
  have ec : ((c.toNat : Nat) : Int) = c := by omega
  rw [ea, eb, ec] at h
  show (callFunc 72 #[.int .u64 a, .int .u64 b, .int .u64 c]).run Tryd.prog w = _
  rw [run_callFunc_extern Tryd.func72 (by kernel_rfl) (by kernel_rfl) (by kernel_rfl) (e := sub64Entry) (by kernel_rfl), h]
  have e1 : (((a.toNat + 18446744073709551616 - b.toNat - c.toNat) % 18446744073709551616 : Nat) : Int) = (a - b - c) % 18446744073709551616 := by omega
  have e2 : ((if a.toNat < b.toNat + c.toNat then 1 else 0 : Nat) : Int) = if a - b - c < 0 then 1 else 0 := by split <;> split <;> omega
  rw [e1, e2]
  rfl

theorem c53 : CT Tryd.prog sigs Φ 53 :=
  ct_of [47, 67] [39, 74, 83, 84] noLoop 100 mixed rfl Tryd.func53 (by kernel_rfl) (forall_cons c47 (forall_cons c67 forall_nil)) fun l0 hl0 hp => by
    obtain ⟨a, l1, rfl, hl1⟩ := canon_int hl0
    obtain ⟨b, l2, rfl, hl2⟩ := canon_int hl1
    cases canon_nil hl2
    clear hl2 hl1 hl0
    have hp : proP a b = true := hp
    show T.holds _ _ _ (resQ Φ fun rs => rs = [.bool (pro0 a b), .int (pro1 a b), .int (pro2 a b)])
    rw [t53]
    simp only [proP, Bool.and_eq_true, ii_iff] at hp
    have h1 : sizP a = true := by unfold sizP; rw [ii_iff]; omega
    have h2 : sizP b = true := by unfold sizP; rw [ii_iff]; omega
    have ha : 0 ≤ ab a ∧ ab a < 18446744073709551616 := by unfold ab; split <;> omega
    have hb : 0 ≤ ab b ∧ ab b < 18446744073709551616 := by unfold ab; split <;> omega
    have h3 : muP (ab a) (ab b) = true := by unfold muP; rw [Bool.and_eq_true, uu_iff, uu_iff]; omega
    rw [h1, h2]
    simp only [siz0]
    rw [h3]
    rfl

theorem c45 : CT Tryd.prog sigs Φ 45 :=
  ct_of [52, 67] [39, 74, 83, 84] noLoop 100 mixed rfl Tryd.func45 (by kernel_rfl) (forall_cons c52 (forall_cons c67 forall_nil)) fun l0 hl0 hp => by
    obtain ⟨a, l1, rfl, hl1⟩ := canon_int hl0
    obtain ⟨b, l2, rfl, hl2⟩ := canon_int hl1
    cases canon_nil hl2
    clear hl2 hl1 hl0
    have hp : timP a b = true := hp
    show T.holds _ _ _ (resQ Φ fun rs => rs = [.int (tim0 a b), .int (tim1 a b), .bool (tim2 a b)])
    rw [t45]
    simp only [timP, Bool.and_eq_true, ii_iff] at hp
    have h1 : rsizP a = true := by unfold rsizP; rw [ii_iff]; omega
    have h2 : rsizP b = true := by unfold rsizP; rw [ii_iff]; omega
    have ha : 0 ≤ ab a ∧ ab a < 18446744073709551616 := by unfold ab; split <;> omega
    have hb : 0 ≤ ab b ∧ ab b < 18446744073709551616 := by unfold ab; split <;> omega
    have h3 : muP (ab a) (ab b) = true := by unfold muP; rw [Bool.and_eq_true, uu_iff, uu_iff]; omega
    rw [h1, h2]
    simp only [rsiz0]
    rw [h3]
    rfl

theorem c50 : CT Tryd.prog sigs Φ 50 :=
  ct_of [45] [39, 74, 83, 84] noLoop 100 mixed rfl Tryd.func50 (by kernel_rfl) (forall_cons c45 forall_nil) fun l0 hl0 hp => by
    obtain ⟨n, l1, rfl, hl1⟩ := canon_int hl0
    cases canon_nil hl1
    clear hl1 hl0
    have hp : oneP n = true := hp
    show T.holds _ _ _ (resQ Φ fun rs => rs = [.int (one0 n), .int (one1 n), .bool (one2 n)])
    rw [t50]
    simp only [oneP, ii_iff] at hp
    have h1 : timP n 1 = true := by unfold timP; rw [Bool.and_eq_true, ii_iff, ii_iff]; omega
    have ha : 0 ≤ ab n ∧ ab n < 18446744073709551616 := by unfold ab; split <;> omega
    rw [h1]
    simp only [tim0, tim1, tim2, one0, one1, one2]
    have e : ab n * ab 1 = ab n := by rw [show ab 1 = 1 from rfl, Int.mul_one]
    rw [e, show ab n / 18446744073709551616 = 0 by omega, show ab n % 18446744073709551616 = ab n by omega]
    have e2 : (decide (n < 0) != decide ((1 : Int) < 0)) = decide (n < 0) := by rw [decide_eq_false (show ¬ (1 : Int) < 0 by omega)]; cases decide (n < 0) <;> rfl
    rw [e2]
    rfl

end Go.Proofs.YtkmffnjmiechfaaDoor
