/- The kerf seat: the closed calls of the examples. -/
import Derived.Test.YtdfcphfoccgopaaKF2
import Derived.Test.YtdfcphfoccgopaaKA
namespace Go.Proofs.Ytdfcphfoccgopaa
open Go.Sx
set_option linter.unusedVariables false
set_option linter.unusedSimpArgs false
set_option maxRecDepth 100000


theorem cA45 : CT Try.prog sigsA ΦA 45 := by
  intro sg hs
  have hs' : some (⟨[], [i1], some (.int .i64), none, some 0⟩ : Sig) = some sg := hs
  cases hs'
  refine ⟨fun _ _ => rfl, ?_⟩
  intro l w b o cap hg hk hn hc hp
  have hp' : (decide (l.length ≤ 1000) && decide (fst0 (l.map Sc.toInt) = 0)) = true := hp
  simp only [Bool.and_eq_true] at hp'
  have h := (c45 _ rfl).2 l w b o cap hg hk hn hc hp'.1
  have e := of_decide_eq_true hp'.2
  exact h.mono fun e' w' ⟨he, hw⟩ => ⟨he.trans (congrArg (fun n => Ending.returned (.int .i64 n)) e), hw⟩
theorem cA52 : CT Try.prog sigsA ΦA 52 := by
  intro sg hs
  have hs' : some (⟨[(iv 6), (iv 6)], [sb], none, none, some 1⟩ : Sig) = some sg := hs
  cases hs'
  refine ⟨fun _ _ => rfl, ?_⟩
  intro l w hg hcan hp
  have hcan0 : Rel2 K.is _ l := hcan
  obtain ⟨x0, l1, rfl, h1⟩ := canon_int hcan0
  obtain ⟨y0, l2, rfl, h2⟩ := canon_int h1
  obtain ⟨z0, l3, rfl, h3⟩ := canon_int h2
  obtain ⟨x1, l4, rfl, h4⟩ := canon_int h3
  obtain ⟨y1, l5, rfl, h5⟩ := canon_int h4
  obtain ⟨z1, l6, rfl, h6⟩ := canon_int h5
  obtain ⟨a0, l7, rfl, h7⟩ := canon_int h6
  obtain ⟨b0, l8, rfl, h8⟩ := canon_int h7
  obtain ⟨c0, l9, rfl, h9⟩ := canon_int h8
  obtain ⟨a1, l10, rfl, h10⟩ := canon_int h9
  obtain ⟨b1', l11, rfl, h11⟩ := canon_int h10
  obtain ⟨c1, l12, rfl, h12⟩ := canon_int h11
  cases canon_nil h12
  have hp' : ins0 x0 y0 z0 x1 y1 z1 a0 b0 c0 a1 b1' c1 = true := hp
  have h := (c52 _ rfl).2 _ w hg hcan rfl
  have hcl : callable Try.prog 52 = true := by kernel_rfl
  rw [if_pos hcl] at h ⊢
  exact h.mono fun e' w' ⟨he, hw⟩ => ⟨he.trans (congrArg (fun b => Ending.returned (.bool b)) hp'), hw⟩
theorem cA14 : CT Try.prog sigsA ΦA 14 := c14
theorem cA16 : CT Try.prog sigsA ΦA 16 := c16
theorem cA22 : CT Try.prog sigsA ΦA 22 := c22
theorem cA23 : CT Try.prog sigsA ΦA 23 := c23
theorem cA20 : CT Try.prog sigsA ΦA 20 := c20
theorem cA46 : CT Try.prog sigsA ΦA 46 := c46
theorem cA47 : CT Try.prog sigsA ΦA 47 := c47
theorem cA50 : CT Try.prog sigsA ΦA 50 := c50
theorem cA48 : CT Try.prog sigsA ΦA 48 := c48
theorem cA55 : CT Try.prog sigsA ΦA 55 := c55
theorem cA43 : CT Try.prog sigsA ΦA 43 := c43
theorem cA44 : CT Try.prog sigsA ΦA 44 := c44
theorem cA39 : CT Try.prog sigsA ΦA 39 := c39
theorem cA12 : CT Try.prog sigsA ΦA 12 :=
  ct_of [14, 16, 22, 23, 20, 46, 47, 50, 48, 45, 55, 43, 44, 52, 39] [28, 29, 34, 53, 51, 42, 43, 39] noLoop 100 mixed rfl Try.func12 (by kernel_rfl) (forall_cons cA14 (forall_cons cA16 (forall_cons cA22 (forall_cons cA23 (forall_cons cA20 (forall_cons cA46 (forall_cons cA47 (forall_cons cA50 (forall_cons cA48 (forall_cons cA45 (forall_cons cA55 (forall_cons cA43 (forall_cons cA44 (forall_cons cA52 (forall_cons cA39 forall_nil))))))))))))))) fun l0 hl0 hp => by
    cases canon_nil hl0
    show T.holds _ _ _ (resQ ΦA fun rs => rs = [.bool true])
    rw [t12]
theorem c12 : CT Try.prog sigs Φ 12 := cA12

end Go.Proofs.Ytdfcphfoccgopaa
