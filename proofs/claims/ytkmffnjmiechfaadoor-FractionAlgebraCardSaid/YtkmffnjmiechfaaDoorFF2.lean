/- The fraction seat: contracts, the first part. -/
import Derived.Test.YtkmffnjmiechfaaDoorFF1
namespace Go.Proofs.YtkmffnjmiechfaaDoor
open Go.Sx
set_option linter.unusedVariables false
set_option linter.unusedSimpArgs false
set_option maxRecDepth 100000

theorem lss_d (a b : Int) : cmpI .lss a b = decide (a < b) := rfl
theorem eql_d (a b : Int) : cmpI .eql a b = decide (a = b) := rfl
theorem nlt_d (a b : Int) : (!decide (a < b)) = decide (b ≤ a) := by
  by_cases h : a < b
  · rw [decide_eq_true h, decide_eq_false (by omega)]; rfl
  · rw [decide_eq_false h, decide_eq_true (by omega)]; rfl
theorem and_chain (x y : Bool) (A B : Prop) : cond x (cond y B A) A = cond (x && y) B A := by cases x <;> rfl
theorem cond_if (x : Bool) (A B : Prop) : cond x A B = if x = true then A else B := by cases x <;> rfl
theorem near_gen (x lo hi : Int) (A B : Prop) : cond (cmpI .lss x lo) A (cond (cmpI .lss hi x) A B) = cond (decide (lo ≤ x) && decide (x ≤ hi)) B A := by
  rw [lss_d, lss_d]
  by_cases h1 : x < lo
  · rw [decide_eq_true h1, decide_eq_false (p := lo ≤ x) (by omega)]; rfl
  · by_cases h2 : hi < x
    · rw [decide_eq_false h1, decide_eq_true h2, decide_eq_false (p := x ≤ hi) (by omega), Bool.and_false]; rfl
    · rw [decide_eq_false h1, decide_eq_false h2, decide_eq_true (p := x ≤ hi) (by omega), decide_eq_true (p := lo ≤ x) (by omega)]; rfl
theorem in_gen (n lo hi : Int) (Q : List Sc → Prop) : cond (cmpI .lss n lo) (Q [.bool false]) (Q [.bool (!(cmpI .lss hi n))]) = Q [.bool (decide (lo ≤ n) && decide (n ≤ hi))] := by
  rw [lss_d, lss_d, nlt_d]
  by_cases h1 : n < lo
  · rw [decide_eq_true h1, decide_eq_false (p := lo ≤ n) (by omega)]; rfl
  · rw [decide_eq_false h1, decide_eq_true (p := lo ≤ n) (by omega)]; rfl
theorem T1 {A B : Prop} (u : Int) : cond (cmpI .eql u u) A B = A := by rw [eql_d, decide_eq_true rfl]; rfl
theorem mn_bd {a b L U : Int} (h1 : L ≤ a ∧ a ≤ U) (h2 : L ≤ b ∧ b ≤ U) : L ≤ mnI a b ∧ mnI a b ≤ U := by unfold mnI; split <;> omega
theorem mx_bd {a b L U : Int} (h1 : L ≤ a ∧ a ≤ U) (h2 : L ≤ b ∧ b ≤ U) : L ≤ mxI a b ∧ mxI a b ≤ U := by unfold mxI; split <;> omega
theorem tdiv_bd {x k : Int} {B : Int} (h1 : -B ≤ x) (h2 : x ≤ B) : -B ≤ x.tdiv k ∧ x.tdiv k ≤ B := by
  have h : (x.tdiv k).natAbs ≤ x.natAbs := by rw [Int.natAbs_tdiv]; exact Nat.div_le_self _ _
  omega

theorem mixed : Tryd.prog.follows .mixedOrders = true := by kernel_rfl
theorem cond_if' (x : Bool) (A B : Prop) : cond x A B = if x = true then A else B := by cases x <;> rfl
theorem uu_iff (n : Int) : (uu n = true) = (0 ≤ n ∧ n < 18446744073709551616) := by simp [uu]
theorem ii_iff (n : Int) : (ii n = true) = (-9223372036854775808 ≤ n ∧ n ≤ 9223372036854775807) := by simp [ii]
theorem wu_iff (h l : Int) : (wu h l = true) = ((0 ≤ l ∧ l < 18446744073709551616) ∧ 0 ≤ h ∧ h < 4611686018427387904) := by simp [wu, uu, and_assoc]
theorem wrap_u (n : Int) : IntKind.wrap .u64 n = n % 18446744073709551616 := by
  simp [IntKind.wrap, IntKind.signed, IntKind.bits]
theorem cmp3_tree (a b : Int) : (cond (cmpI .lss a b) ([Sc.int (-1)] = [Sc.int (cmp3 a b)]) (cond (cmpI .lss b a) ([Sc.int 1] = [Sc.int (cmp3 a b)]) ([Sc.int 0] = [Sc.int (cmp3 a b)]))) := by
  show cond (decide (a < b)) _ (cond (decide (b < a)) _ _)
  unfold cmp3
  by_cases h1 : a < b
  · simp [h1]
  · by_cases h2 : b < a <;> simp [h1, h2]
theorem ab_nat (n : Int) : ab n = (n.natAbs : Int) := by unfold ab; split <;> omega
theorem uar_add {a b : Int} (h1 : 0 ≤ a + b) (h2 : a + b ≤ 18446744073709551615) : arI .add .u64 a b = a + b := wrap_u64 h1 h2
theorem uar_sub {a b : Int} (h1 : 0 ≤ a - b) (h2 : a - b ≤ 18446744073709551615) : arI .sub .u64 a b = a - b := wrap_u64 h1 h2
theorem gI_pos {a b : Int} (h : 0 < a ∨ 0 < b) : 0 < gI a b := by
  unfold gI
  have : 0 < Nat.gcd a.natAbs b.natAbs := by
    rcases h with h | h
    · exact Nat.gcd_pos_of_pos_left _ (by omega)
    · exact Nat.gcd_pos_of_pos_right _ (by omega)
  omega
theorem gI_comm (a b : Int) : gI a b = gI b a := by unfold gI; rw [Nat.gcd_comm]
theorem gI_le_right {a b : Int} (h : 0 < b) : gI a b ≤ b := by
  unfold gI
  have := Nat.le_of_dvd (show 0 < b.natAbs by omega) (Nat.gcd_dvd_right a.natAbs b.natAbs)
  omega
theorem gI_le_left {a b : Int} (h : 0 < a) : gI a b ≤ a := by rw [gI_comm]; exact gI_le_right h
theorem gI_ab (a b : Int) : gI (ab a) b = gI a b := by
  unfold gI
  rw [ab_nat, Int.natAbs_natCast]
theorem vF_iff (n d : Int) : (vF n d = true) = ((1 ≤ d ∧ d < 1000000000000000000) ∧ (-1000000000000000000 < n ∧ n < 1000000000000000000) ∧ gI n d = 1) := by
  simp only [vF, BD, Bool.and_eq_true, decide_eq_true_eq, and_assoc]
theorem nat_mul_lt {a b A B : Int} (ha : 0 ≤ a) (hb : 0 ≤ b) (h1 : a ≤ A) (h2 : b ≤ B) : 0 ≤ a * b ∧ a * b ≤ A * B := by
  refine ⟨Int.mul_nonneg ha hb, Int.mul_le_mul h1 h2 hb (by omega)⟩
section
variable {Φ' : Ctx} {ρ : List Sc}
theorem gcd_iter {A : T} {Q : Out → List Sc → Prop} : ∀ (n : Nat) (x y : Int), y.natAbs ≤ n →
    (∀ g : Int, g.natAbs = Nat.gcd x.natAbs y.natAbs → (0 ≤ x → 0 ≤ y → 0 ≤ g) → ∀ it, A.holds Φ' (ρ ++ [.int g, .int 0]) (loopQ it Φ' Q)) →
    ∃ m, iterH ((T.ite (.cmp .eql (.var (ρ.length + 1)) (.int 0)) A (.leaf (.cont 0 [.var (ρ.length + 1), .ar .rem .u64 (.var ρ.length) (.var (ρ.length + 1))]))).holds Φ') Φ' ρ Q m [.int x, .int y] := by
  intro n
  induction n with
  | zero =>
    intro x y hy h
    have : y = 0 := by omega
    subst this
    refine ⟨1, ?_⟩
    have hx := h x (by simp) (fun a _ => a) (iterH ((T.ite (.cmp .eql (.var (ρ.length + 1)) (.int 0)) A (.leaf (.cont 0 [.var (ρ.length + 1), .ar .rem .u64 (.var ρ.length) (.var (ρ.length + 1))]))).holds Φ') Φ' ρ Q 0)
    have hv : ((E.var (ρ.length + 1)).den Φ' (ρ ++ [Sc.int x, Sc.int 0])) = .int 0 := by simp [E.den, E.dn]
    simp only [iterH, T.holds]
    have hc : ((E.cmp .eql (.var (ρ.length + 1)) (.int 0)).den Φ' (ρ ++ [Sc.int x, Sc.int 0])).toBool = true := by simp [E.den, E.dn, Sc.toInt, Sc.toBool, cmpI]
    rw [hc]
    exact hx
  | succ n ih =>
    intro x y hy h
    by_cases h0 : y = 0
    · subst h0
      refine ⟨1, ?_⟩
      have hx := h x (by simp) (fun a _ => a) (iterH ((T.ite (.cmp .eql (.var (ρ.length + 1)) (.int 0)) A (.leaf (.cont 0 [.var (ρ.length + 1), .ar .rem .u64 (.var ρ.length) (.var (ρ.length + 1))]))).holds Φ') Φ' ρ Q 0)
      simp only [iterH, T.holds]
      have hc : ((E.cmp .eql (.var (ρ.length + 1)) (.int 0)).den Φ' (ρ ++ [Sc.int x, Sc.int 0])).toBool = true := by simp [E.den, E.dn, Sc.toInt, Sc.toBool, cmpI]
      rw [hc]
      exact hx
    · have hlt : (x.tmod y).natAbs < y.natAbs := by
        rw [Int.natAbs_tmod]
        exact Nat.mod_lt _ (by omega)
      obtain ⟨m, hm⟩ := ih y (x.tmod y) (by omega) (fun g hg hg0 => h g (by rw [hg, Int.natAbs_tmod, Nat.gcd_comm, ← Nat.gcd_rec, Nat.gcd_comm]) (fun a b => hg0 b (Int.tmod_nonneg _ a)))
      refine ⟨m + 1, ?_⟩
      have hc : ((E.cmp .eql (.var (ρ.length + 1)) (.int 0)).den Φ' (ρ ++ [Sc.int x, Sc.int y])).toBool = false := by simp [E.den, E.dn, Sc.toInt, Sc.toBool, cmpI, h0]
      simp only [iterH]
      show (T.ite _ _ _).holds _ _ _
      simp only [T.holds]
      rw [hc]
      simp only [loopQ, cond_false]
      have e : [E.var (ρ.length + 1), .ar .rem .u64 (.var ρ.length) (.var (ρ.length + 1))].map (E.den Φ' (ρ ++ [Sc.int x, Sc.int y])) = [.int y, .int (x.tmod y)] := by
        simp [E.den, E.dn, Sc.toInt, arI]
      rw [e]
      exact hm
end

theorem c55 : CT Tryd.prog sigs Φ 55 :=
  ct_of [] [39, 74, 83, 84] noLoop 100 mixed rfl Tryd.func55 (by kernel_rfl) forall_nil fun l0 hl0 hp => by
    obtain ⟨a, l1, rfl, hl1⟩ := canon_int hl0
    obtain ⟨b, l2, rfl, hl2⟩ := canon_int hl1
    cases canon_nil hl2
    clear hl2 hl1 hl0
    show T.holds _ _ _ (resQ Φ fun rs => rs = [.int (ci0 a b)])
    rw [t55]
    all_goals exact Eq.mpr (T1 a) (Eq.mpr (T1 b) (cmp3_tree a b))

theorem c73 : CT Tryd.prog sigs Φ 73 :=
  ct_of [] [39, 74, 83, 84] noLoop 100 mixed rfl Tryd.func73 (by kernel_rfl) forall_nil fun l0 hl0 hp => by
    obtain ⟨a, l1, rfl, hl1⟩ := canon_int hl0
    obtain ⟨b, l2, rfl, hl2⟩ := canon_int hl1
    cases canon_nil hl2
    clear hl2 hl1 hl0
    show T.holds _ _ _ (resQ Φ fun rs => rs = [.int (cj0 a b)])
    rw [t73]
    all_goals exact Eq.mpr (T1 a) (Eq.mpr (T1 b) (cmp3_tree a b))

theorem c76 : CT Tryd.prog sigs Φ 76 :=
  ct_of [] [39, 74, 83, 84] noLoop 100 mixed rfl Tryd.func76 (by kernel_rfl) forall_nil fun l0 hl0 hp => by
    obtain ⟨a, l1, rfl, hl1⟩ := canon_int hl0
    obtain ⟨b, l2, rfl, hl2⟩ := canon_int hl1
    cases canon_nil hl2
    clear hl2 hl1 hl0
    show T.holds _ _ _ (resQ Φ fun rs => rs = [.int (cu0 a b)])
    rw [t76]
    all_goals exact Eq.mpr (T1 a) (Eq.mpr (T1 b) (cmp3_tree a b))

theorem c54 : CT Tryd.prog sigs Φ 54 :=
  ct_of [73] [39, 74, 83, 84] noLoop 100 mixed rfl Tryd.func54 (by kernel_rfl) (forall_cons c73 forall_nil) fun l0 hl0 hp => by
    obtain ⟨n, l1, rfl, hl1⟩ := canon_int hl0
    obtain ⟨d, l2, rfl, hl2⟩ := canon_int hl1
    cases canon_nil hl2
    clear hl2 hl1 hl0
    show T.holds _ _ _ (resQ Φ fun rs => rs = [.int (sgn0 n d)])
    rw [t54]
    all_goals rfl

theorem c42 : CT Tryd.prog sigs Φ 42 :=
  ct_of [] [39, 74, 83, 84] noLoop 100 mixed rfl Tryd.func42 (by kernel_rfl) forall_nil fun l0 hl0 hp => by
    obtain ⟨n, l1, rfl, hl1⟩ := canon_int hl0
    obtain ⟨d, l2, rfl, hl2⟩ := canon_int hl1
    cases canon_nil hl2
    clear hl2 hl1 hl0
    show T.holds _ _ _ (resQ Φ fun rs => rs = [.int (off0 n d), .int (off1 n d)])
    rw [t42]
    all_goals rfl

theorem c46 : CT Tryd.prog sigs Φ 46 :=
  ct_of [] [39, 74, 83, 84] noLoop 100 mixed rfl Tryd.func46 (by kernel_rfl) forall_nil fun l0 hl0 hp => by
    obtain ⟨h, l1, rfl, hl1⟩ := canon_int hl0
    obtain ⟨l, l2, rfl, hl2⟩ := canon_int hl1
    obtain ⟨s, l3, rfl, hl3⟩ := canon_bool hl2
    cases canon_nil hl3
    clear hl3 hl2 hl1 hl0
    show T.holds _ _ _ (resQ Φ fun rs => rs = [.int (mns0 h l s), .int (mns1 h l s), .bool (mns2 h l s)])
    rw [t46]
    all_goals rfl

theorem c47 : CT Tryd.prog sigs Φ 47 :=
  ct_of [] [39, 74, 83, 84] noLoop 100 mixed rfl Tryd.func47 (by kernel_rfl) forall_nil fun l0 hl0 hp => by
    obtain ⟨n, l1, rfl, hl1⟩ := canon_int hl0
    cases canon_nil hl1
    clear hl1 hl0
    have hp : sizP n = true := hp
    show T.holds _ _ _ (resQ Φ fun rs => rs = [.int (siz0 n)])
    rw [t47]
    simp only [sizP, ii_iff] at hp
    unfold siz0 ab
    rw [lss_d, wrap_u]
    by_cases h : n < 0
    · rw [decide_eq_true h, if_pos h]
      show [Sc.int (arI .sub .u64 0 (n % 18446744073709551616))] = _
      have e : arI .sub .u64 0 (n % 18446744073709551616) = -n := by
        show IntKind.wrap .u64 (0 - n % 18446744073709551616) = -n
        rw [wrap_u]
        omega
      rw [e]
    · rw [decide_eq_false h, if_neg h]
      show [Sc.int (n % 18446744073709551616)] = _
      rw [show n % 18446744073709551616 = n by omega]

theorem c52 : CT Tryd.prog sigs Φ 52 :=
  ct_of [] [39, 74, 83, 84] noLoop 100 mixed rfl Tryd.func52 (by kernel_rfl) forall_nil fun l0 hl0 hp => by
    obtain ⟨n, l1, rfl, hl1⟩ := canon_int hl0
    cases canon_nil hl1
    clear hl1 hl0
    have hp : rsizP n = true := hp
    show T.holds _ _ _ (resQ Φ fun rs => rs = [.int (rsiz0 n)])
    rw [t52]
    simp only [rsizP, ii_iff] at hp
    unfold rsiz0 ab
    rw [lss_d, wrap_u]
    by_cases h : n < 0
    · rw [decide_eq_true h, if_pos h]
      show [Sc.int (arI .sub .u64 0 (n % 18446744073709551616))] = _
      have e : arI .sub .u64 0 (n % 18446744073709551616) = -n := by
        show IntKind.wrap .u64 (0 - n % 18446744073709551616) = -n
        rw [wrap_u]
        omega
      rw [e]
    · rw [decide_eq_false h, if_neg h]
      show [Sc.int (n % 18446744073709551616)] = _
      rw [show n % 18446744073709551616 = n by omega]

theorem c57 : CT Tryd.prog sigs Φ 57 :=
  ct_of [] [39, 74, 83, 84] noLoop 100 mixed rfl Tryd.func57 (by kernel_rfl) forall_nil fun l0 hl0 hp => by
    obtain ⟨h, l1, rfl, hl1⟩ := canon_int hl0
    obtain ⟨l, l2, rfl, hl2⟩ := canon_int hl1
    obtain ⟨s, l3, rfl, hl3⟩ := canon_bool hl2
    cases canon_nil hl3
    clear hl3 hl2 hl1 hl0
    show T.holds _ _ _ (resQ Φ fun rs => rs = [.bool (zer0 h l s)])
    rw [t57]
    simp only [zer0, eql_d]
    by_cases h1 : h = 0 <;> simp [h1]

theorem c71 : CT Tryd.prog sigs Φ 71 :=
  ct_of [] [39, 74, 83, 84] noLoop 100 mixed rfl Tryd.func71 (by kernel_rfl) forall_nil fun l0 hl0 hp => by
    obtain ⟨h, l1, rfl, hl1⟩ := canon_int hl0
    obtain ⟨l, l2, rfl, hl2⟩ := canon_int hl1
    obtain ⟨s, l3, rfl, hl3⟩ := canon_bool hl2
    obtain ⟨i, l4, rfl, hl4⟩ := canon_int hl3
    obtain ⟨m, l5, rfl, hl5⟩ := canon_int hl4
    obtain ⟨t, l6, rfl, hl6⟩ := canon_bool hl5
    cases canon_nil hl6
    clear hl6 hl5 hl4 hl3 hl2 hl1 hl0
    have hp : abvP h l s i m t = true := hp
    show T.holds _ _ _ (resQ Φ fun rs => rs = [.bool (abv0 h l s i m t)])
    rw [t71]
    simp only [abvP, Bool.and_eq_true, uu_iff] at hp
    simp only [abv0, mg, lss_d, eql_d]
    by_cases h1 : i < h
    · rw [decide_eq_true h1, decide_eq_true (p := i * 18446744073709551616 + m < h * 18446744073709551616 + l) (by omega)]; rfl
    · rw [decide_eq_false h1]
      by_cases h2 : h = i
      · subst h2
        rw [decide_eq_true rfl]
        show [Sc.bool (decide (m < l))] = _
        congr 2
        apply decide_eq_decide.2
        omega
      · rw [decide_eq_false h2, decide_eq_false (p := i * 18446744073709551616 + m < h * 18446744073709551616 + l) (by omega)]; rfl


theorem c75 : CT Tryd.prog sigs Φ 75 := by
  intro sg hs
  have hs' : some (⟨[], [i1], some (.int .i64), none, none⟩ : Sig) = some sg := hs
  cases hs'
  refine ⟨fun _ _ => trivial, ?_⟩
  intro l w b o cap hg hk hn hc hp
  have hlen : (l.map Sc.toInt).length = l.length := List.length_map ..
  have hp' : l.length ≤ 1000 := of_decide_eq_true hp
  have h := walk75 (l.map Sc.toInt) b o cap w (by omega) (by omega) (fun i x hx => by
    rw [List.getElem?_map] at hx
    cases hl : l[i]? with
    | none => rw [hl] at hx; cases hx
    | some s =>
      rw [hl] at hx
      cases hx
      have h1 := hc i s hl
      obtain ⟨n, rfl⟩ := hk s (List.mem_of_getElem? hl)
      exact h1)
  rw [hlen] at h
  exact h.mono fun e w' ⟨he, hw⟩ => ⟨he, hw ▸ ⟨rfl, rfl, rfl, Nat.le_refl _, fun _ _ => rfl⟩⟩
theorem c67 : CT Tryd.prog sigs Φ 67 := by
  intro sg hs
  have hs' : some (⟨[(.one (.int .u64)), (.one (.int .u64))], [(.one (.int .u64)), (.one (.int .u64))], none, none, none⟩ : Sig) = some sg := hs
  cases hs'
  refine ⟨fun _ _ => trivial, ?_⟩
  intro l w hg hcan hp
  have hcan0 : Rel2 K.is _ l := hcan
  obtain ⟨a, l1, rfl, h1⟩ := canon_int hcan0
  obtain ⟨b, l2, rfl, h2⟩ := canon_int h1
  cases canon_nil h2
  have hp' : (uu a && uu b) = true := hp
  simp only [Bool.and_eq_true, uu_iff] at hp'
  rw [if_pos (show callable Tryd.prog 67 = true by kernel_rfl)]
  have h := Tryd.bits_Mul64 a.toNat b.toNat (by omega) (by omega) w
  have ea : ((a.toNat : Nat) : Int) = a := by omega
  have eb : ((b.toNat : Nat) : Int) = b := by omega
  have e1 : (((a.toNat * b.toNat / 18446744073709551616 : Nat)) : Int) = a * b / 18446744073709551616 := by rw [Int.natCast_ediv, Int.natCast_mul, ea, eb]; rfl
  have e2 : (((a.toNat * b.toNat % 18446744073709551616 : Nat)) : Int) = a * b % 18446744073709551616 := by rw [Int.natCast_emod, Int.natCast_mul, ea, eb]; rfl
  rw [ea, eb] at h
  refine h.mono fun e w' ⟨he, hw⟩ => ⟨he.trans ?_, hw ▸ ⟨rfl, rfl, rfl, Nat.le_refl _, fun _ _ => rfl⟩⟩
  rw [e1, e2]
  rfl
theorem c95 : CT Tryd.prog sigs Φ 95 := by
  intro sg hs
  have hs' : some (⟨[(.one (.int .u64))], [i1], none, none, none⟩ : Sig) = some sg := hs
  cases hs'
  refine ⟨fun _ _ => trivial, ?_⟩
  intro l w hg hcan hp
  have hcan0 : Rel2 K.is _ l := hcan
  obtain ⟨a, l1, rfl, h1⟩ := canon_int hcan0
  cases canon_nil h1
  have hp' : uu a = true := hp
  simp only [uu_iff] at hp'
  rw [if_pos (show callable Tryd.prog 95 = true by kernel_rfl)]
  exact (Tryd.bits_LeadingZeros64 a w (by omega) (by omega)).mono fun e w' ⟨he, hw⟩ => ⟨he, hw ▸ ⟨rfl, rfl, rfl, Nat.le_refl _, fun _ _ => rfl⟩⟩

theorem c56 : CT Tryd.prog sigs Φ 56 :=
  ct_of [76, 75] [39, 74, 83, 84] noLoop 100 mixed rfl Tryd.func56 (by kernel_rfl) (forall_cons c76 (forall_cons c75 forall_nil)) fun l0 hl0 hp => by
    obtain ⟨s, l1, rfl, hl1⟩ := canon_bool hl0
    obtain ⟨h, l2, rfl, hl2⟩ := canon_int hl1
    obtain ⟨l, l3, rfl, hl3⟩ := canon_int hl2
    obtain ⟨t, l4, rfl, hl4⟩ := canon_bool hl3
    obtain ⟨i, l5, rfl, hl5⟩ := canon_int hl4
    obtain ⟨m, l6, rfl, hl6⟩ := canon_int hl5
    cases canon_nil hl6
    clear hl6 hl5 hl4 hl3 hl2 hl1 hl0
    have hp : cmwP s h l t i m = true := hp
    show T.holds _ _ _ (resQ Φ fun rs => rs = [.int (cmw0 s h l t i m)])
    rw [t56]
    simp only [cmwP, Bool.and_eq_true, uu_iff] at hp
    simp only [cmw0, cu0, fst0, firstE]
    have e : (if cmp3 h i = 0 then (if cmp3 l m = 0 then (0 : Int) else cmp3 l m) else cmp3 h i) = cmp3 (mg h l) (mg i m) := by
      unfold cmp3 mg
      (repeat' split) <;> omega
    exact congrArg (fun x => [Sc.int x]) e

theorem c49 : CT Tryd.prog sigs Φ 49 :=
  ct_of [] [39, 74, 83, 84] noLoop 100 mixed rfl Tryd.func49 (by kernel_rfl) forall_nil fun l0 hl0 hp => by
    obtain ⟨s, l1, rfl, hl1⟩ := canon_bool hl0
    obtain ⟨a, l2, rfl, hl2⟩ := canon_int hl1
    obtain ⟨b, l3, rfl, hl3⟩ := canon_int hl2
    cases canon_nil hl3
    clear hl3 hl2 hl1 hl0
    have hp : makP s a b = true := hp
    show T.holds _ _ _ (resQ Φ fun rs => rs = [.int (mak0 s a b), .int (mak1 s a b), .int (mak2 s a b)])
    rw [t49]
    simp only [makP, Bool.and_eq_true, uu_iff] at hp
    simp only [mak0, mak1, mak2, lss_d, BD]
    by_cases h1 : a < 1000000000000000000
    · by_cases h2 : b < 1000000000000000000
      · rw [wrap_i64 (n := a) (by omega) (by omega), wrap_i64 (n := b) (by omega) (by omega), ar_sub (by omega) (by omega), Int.zero_sub]
        cases s <;> simp [h1, h2]
      · simp [h1, h2]
    · simp [h1]

theorem c58 : CT Tryd.prog sigs Φ 58 :=
  ct_of [] [39, 74, 83, 84] noLoop 100 mixed rfl Tryd.func58 (by kernel_rfl) forall_nil fun l0 hl0 hp => by
    obtain ⟨n, l1, rfl, hl1⟩ := canon_int hl0
    obtain ⟨d, l2, rfl, hl2⟩ := canon_int hl1
    cases canon_nil hl2
    clear hl2 hl1 hl0
    have hp : floP n d = true := hp
    show T.holds _ _ _ (resQ Φ fun rs => rs = [.int (flo0 n d)])
    rw [t58]
    simp only [floP, Bool.and_eq_true, decide_eq_true_eq, BD] at hp
    obtain ⟨⟨⟨p1, p2⟩, p3⟩, p4⟩ := hp
    have hb : (!(cmpI .eql d 0)) = true := by rw [eql_d, decide_eq_false (by omega)]; rfl
    have t := tdiv_bd (x := n) (k := d) (B := 1000000000000000000) (by omega) (by omega)
    rw [hb, ar_quo (by omega) (by omega), ar_sub (by omega) (by omega)]
    show cond (decide (n.tmod d < 0)) _ _
    have q1 := Int.tdiv_eq_ediv (a := n) (b := d)
    have q2 := Int.tmod_eq_emod (a := n) (b := d)
    have q3 := Int.emod_nonneg n (show d ≠ 0 by omega)
    have q4 := Int.emod_lt_of_pos n (show 0 < d by omega)
    by_cases c : 0 ≤ n ∨ d ∣ n
    · rw [if_pos c] at q1 q2
      rw [decide_eq_false (by omega)]
      show [Sc.int (n.tdiv d)] = [Sc.int (n / d)]
      rw [q1, Int.add_zero]
    · rw [if_neg c] at q1 q2
      rw [decide_eq_true (by omega)]
      show [Sc.int (n.tdiv d - 1)] = [Sc.int (n / d)]
      rw [q1, Int.sign_eq_one_of_pos (by omega), Int.add_sub_cancel]

theorem c31 : CT Tryd.prog sigs Φ 31 :=
  ct_of [] [39, 74, 83, 84] noLoop 100 mixed rfl Tryd.func31 (by kernel_rfl) forall_nil fun l0 hl0 hp => by
    obtain ⟨n, l1, rfl, hl1⟩ := canon_int hl0
    obtain ⟨d, l2, rfl, hl2⟩ := canon_int hl1
    cases canon_nil hl2
    clear hl2 hl1 hl0
    have hp : rFloP n d = true := hp
    show T.holds _ _ _ (resQ Φ fun rs => rs = [.int (rFlo0 n d)])
    rw [t31]
    simp only [rFloP, Bool.and_eq_true, decide_eq_true_eq, BD] at hp
    obtain ⟨⟨⟨p1, p2⟩, p3⟩, p4⟩ := hp
    have hb : (!(cmpI .eql d 0)) = true := by rw [eql_d, decide_eq_false (by omega)]; rfl
    have t := tdiv_bd (x := n) (k := d) (B := 1000000000000000000) (by omega) (by omega)
    rw [hb, ar_quo (by omega) (by omega), ar_sub (by omega) (by omega)]
    show cond (decide (n.tmod d < 0)) _ _
    have q1 := Int.tdiv_eq_ediv (a := n) (b := d)
    have q2 := Int.tmod_eq_emod (a := n) (b := d)
    have q3 := Int.emod_nonneg n (show d ≠ 0 by omega)
    have q4 := Int.emod_lt_of_pos n (show 0 < d by omega)
    by_cases c : 0 ≤ n ∨ d ∣ n
    · rw [if_pos c] at q1 q2
      rw [decide_eq_false (by omega)]
      show [Sc.int (n.tdiv d)] = [Sc.int (n / d)]
      rw [q1, Int.add_zero]
    · rw [if_neg c] at q1 q2
      rw [decide_eq_true (by omega)]
      show [Sc.int (n.tdiv d - 1)] = [Sc.int (n / d)]
      rw [q1, Int.sign_eq_one_of_pos (by omega), Int.add_sub_cancel]

theorem c48 : CT Tryd.prog sigs Φ 48 :=
  ct_of [] [39, 74, 83, 84] (fun f r => if f = 48 then (if r = 1 then some ⟨[(0, (.int .u64)), (1, (.int .u64))], []⟩ else none) else none) 100 mixed rfl Tryd.func48 (by kernel_rfl) forall_nil fun l0 hl0 hp => by
    obtain ⟨a, l1, rfl, hl1⟩ := canon_int hl0
    obtain ⟨b, l2, rfl, hl2⟩ := canon_int hl1
    cases canon_nil hl2
    clear hl2 hl1 hl0
    have hp : gcdP a b = true := hp
    show T.holds _ _ _ (resQ Φ fun rs => rs = [.int (gcd0 a b)])
    rw [t48]
    simp only [gcdP, Bool.and_eq_true, uu_iff] at hp
    show ∃ m, iterH _ Φ _ _ m [.int a, .int b]
    refine gcd_iter (ρ := [.int a, .int b]) b.natAbs a b (Nat.le_refl _) fun g hg hg0 it => ?_
    show [Sc.int g] = [Sc.int (gI a b)]
    have e : g = gI a b := by unfold gI; have := hg0 (by omega) (by omega); omega
    rw [e]

theorem c51 : CT Tryd.prog sigs Φ 51 :=
  ct_of [] [39, 74, 83, 84] (fun f r => if f = 51 then (if r = 1 then some ⟨[(0, (.int .u64)), (1, (.int .u64))], []⟩ else none) else none) 100 mixed rfl Tryd.func51 (by kernel_rfl) forall_nil fun l0 hl0 hp => by
    obtain ⟨a, l1, rfl, hl1⟩ := canon_int hl0
    obtain ⟨b, l2, rfl, hl2⟩ := canon_int hl1
    cases canon_nil hl2
    clear hl2 hl1 hl0
    have hp : rgcdP a b = true := hp
    show T.holds _ _ _ (resQ Φ fun rs => rs = [.int (rgcd0 a b)])
    rw [t51]
    simp only [rgcdP, Bool.and_eq_true, uu_iff] at hp
    show ∃ m, iterH _ Φ _ _ m [.int a, .int b]
    refine gcd_iter (ρ := [.int a, .int b]) b.natAbs a b (Nat.le_refl _) fun g hg hg0 it => ?_
    show [Sc.int g] = [Sc.int (gI a b)]
    have e : g = gI a b := by unfold gI; have := hg0 (by omega) (by omega); omega
    rw [e]

theorem c23 : CT Tryd.prog sigs Φ 23 :=
  ct_of [47, 48] [39, 74, 83, 84] noLoop 100 mixed rfl Tryd.func23 (by kernel_rfl) (forall_cons c47 (forall_cons c48 forall_nil)) fun l0 hl0 hp => by
    obtain ⟨n, l1, rfl, hl1⟩ := canon_int hl0
    obtain ⟨d, l2, rfl, hl2⟩ := canon_int hl1
    cases canon_nil hl2
    clear hl2 hl1 hl0
    show T.holds _ _ _ (resQ Φ fun rs => rs = [.bool (Val0 n d)])
    rw [t23]
    simp only [Val0, eql_d, lss_d]
    have e : vF n d = (decide (1 ≤ d) && (decide (d < 1000000000000000000) && (decide (-1000000000000000000 < n) && (decide (n < 1000000000000000000) && decide (gI n d = 1))))) := by
      unfold vF BD
      ac_rfl
    rw [e]
    by_cases h1 : d < 1
    · have h1' : ¬ 1 ≤ d := by omega
      simp [h1, h1']
    · have h1' : 1 ≤ d := by omega
      by_cases h2 : d < 1000000000000000000
      · by_cases h3 : -1000000000000000000 < n
        · by_cases h4 : n < 1000000000000000000
          · have hs : sizP n = true := by unfold sizP; rw [ii_iff]; omega
            have hw : IntKind.wrap .u64 d = d := by rw [wrap_u]; omega
            have hab : 0 ≤ ab n ∧ ab n < 18446744073709551616 := by unfold ab; split <;> omega
            have hg : gcdP (ab n) d = true := by unfold gcdP; rw [Bool.and_eq_true, uu_iff, uu_iff]; omega
            rw [hs, hw]
            simp only [siz0, gcd0]
            rw [hg]
            simp only [gI_ab]
            simp [h1, h1', h2, h3, h4]
          · simp [h1, h1', h2, h3, h4]
        · simp [h1, h1', h2, h3]
      · simp [h1, h1', h2]

theorem c24 : CT Tryd.prog sigs Φ 24 :=
  ct_of [52, 51] [39, 74, 83, 84] noLoop 100 mixed rfl Tryd.func24 (by kernel_rfl) (forall_cons c52 (forall_cons c51 forall_nil)) fun l0 hl0 hp => by
    obtain ⟨n, l1, rfl, hl1⟩ := canon_int hl0
    obtain ⟨d, l2, rfl, hl2⟩ := canon_int hl1
    cases canon_nil hl2
    clear hl2 hl1 hl0
    show T.holds _ _ _ (resQ Φ fun rs => rs = [.bool (rVal0 n d)])
    rw [t24]
    simp only [rVal0, eql_d, lss_d]
    have e : vF n d = (decide (1 ≤ d) && (decide (d < 1000000000000000000) && (decide (-1000000000000000000 < n) && (decide (n < 1000000000000000000) && decide (gI n d = 1))))) := by
      unfold vF BD
      ac_rfl
    rw [e]
    by_cases h1 : d < 1
    · have h1' : ¬ 1 ≤ d := by omega
      simp [h1, h1']
    · have h1' : 1 ≤ d := by omega
      by_cases h2 : d < 1000000000000000000
      · by_cases h3 : -1000000000000000000 < n
        · by_cases h4 : n < 1000000000000000000
          · have hs : rsizP n = true := by unfold rsizP; rw [ii_iff]; omega
            have hw : IntKind.wrap .u64 d = d := by rw [wrap_u]; omega
            have hab : 0 ≤ ab n ∧ ab n < 18446744073709551616 := by unfold ab; split <;> omega
            have hg : rgcdP (ab n) d = true := by unfold rgcdP; rw [Bool.and_eq_true, uu_iff, uu_iff]; omega
            rw [hs, hw]
            simp only [rsiz0, rgcd0]
            rw [hg]
            simp only [gI_ab]
            simp [h1, h1', h2, h3, h4]
          · simp [h1, h1', h2, h3, h4]
        · simp [h1, h1', h2, h3]
      · simp [h1, h1', h2]

theorem c15 : CT Tryd.prog sigs Φ 15 :=
  ct_of [24] [39, 74, 83, 84] noLoop 100 mixed rfl Tryd.func15 (by kernel_rfl) (forall_cons c24 forall_nil) fun l0 hl0 hp => by
    obtain ⟨an, l1, rfl, hl1⟩ := canon_int hl0
    obtain ⟨ad, l2, rfl, hl2⟩ := canon_int hl1
    obtain ⟨bn, l3, rfl, hl3⟩ := canon_int hl2
    obtain ⟨bd, l4, rfl, hl4⟩ := canon_int hl3
    cases canon_nil hl4
    clear hl4 hl3 hl2 hl1 hl0
    show T.holds _ _ _ (resQ Φ fun rs => rs = [.bool (two0 an ad bn bd)])
    rw [t15]
    simp only [rVal0, two0]
    cases vF an ad <;> rfl

end Go.Proofs.YtkmffnjmiechfaaDoor
