/- The fraction seat: division bit by bit. -/
import Derived.Test.YtkmffnjmiechfaaDoorFF7
import Derived.Laws.BitsLemmas
namespace Go.Proofs.YtkmffnjmiechfaaDoor
open Go.Sx
set_option linter.unusedVariables false
set_option linter.unusedSimpArgs false
set_option maxRecDepth 100000


theorem wraps_u64 (n : Int) (h₀ : 0 ≤ n) (h₁ : n < 2 ^ 64) : IntKind.u64.wrap n = n := wrap_u64 h₀ (by omega)
theorem u64_and1 {x : Int} (h₀ : 0 ≤ x) (h₁ : x < 18446744073709551616) : arI .and .u64 x 1 = x % 2 := bits_mask .u64 64 (by decide) wraps_u64 1 (by decide) x h₀ h₁
theorem u64_orJ (i : Nat) {x y : Int} (h₀ : 0 ≤ x) (hx : x % 2 ^ i = 0) (h₁ : x < 18446744073709551616) (g₀ : 0 ≤ y) (hy : y < 2 ^ i) (g₁ : y < 18446744073709551616) : arI .or .u64 x y = x + y :=
  bits_join .u64 64 (by decide) wraps_u64 i x y h₀ hx h₁ g₀ hy g₁
theorem u64_shr {x : Int} (k : Int) (hk : k ≤ 64) : arI .shr .u64 x k = x / 2 ^ k.toNat := by
  show x.fdiv (2 ^ (min k.toNat 64)) = _
  rw [Nat.min_eq_left (by omega), Int.fdiv_eq_ediv_of_nonneg _ (Int.le_of_lt (Int.pow_pos (by decide)))]
theorem u64_shl {x : Int} (k : Int) (hk : k ≤ 64) : arI .shl .u64 x k = x * 2 ^ k.toNat % 18446744073709551616 := by
  show IntKind.wrap .u64 (x * 2 ^ (min k.toNat 64)) = _
  rw [Nat.min_eq_left (by omega), wrap_u]
theorem pow_split {a b : Nat} (h : a ≤ b) : (2 : Int) ^ b = 2 ^ (b - a) * 2 ^ a := by rw [← Int.pow_add, Nat.sub_add_cancel h]
theorem two_pos (n : Nat) : 0 < (2 : Int) ^ n := Int.pow_pos (by decide)

theorem iter_inv {B : List Sc → (Out → List Sc → Prop) → Prop} {Φ' : Ctx} {ρ : List Sc} {Q : Out → List Sc → Prop} (I : Nat → List Sc → Prop)
    (h : ∀ n vs, I n vs → ∀ it : List Sc → Prop, (∀ k vs', k + 1 = n → I k vs' → it vs') → B (ρ ++ vs) (loopQ it Φ' Q)) : ∀ n vs, I n vs → ∃ m, iterH B Φ' ρ Q m vs := by
  have key : ∀ n vs, I n vs → iterH B Φ' ρ Q (n + 1) vs := by
    intro n
    induction n with
    | zero => exact fun vs hi => h 0 vs hi _ fun k _ hk => by omega
    | succ n ih => exact fun vs hi => h (n + 1) vs hi _ fun k vs' hk hk' => ih vs' ((show k = n by omega) ▸ hk')
  exact fun n vs hi => ⟨n + 1, key n vs hi⟩
theorem div_uniq {X y q r : Int} (h0 : 0 ≤ r) (h1 : r < y) (e : X = y * q + r) : X / y = q ∧ X % y = r := by
  have := (Int.ediv_emod_unique (a := X) (b := y) (q := q) (r := r) (by omega)).2 ⟨by omega, h0, h1⟩
  exact this
/-- One round of the division bit by bit. -/
theorem dvd_round {X X' y b : Int} (hy : 0 < y) (e : X' = 2 * X + b) (b0 : 0 ≤ b) (b1 : b ≤ 1) :
    (2 * (X % y) + b < y → X' / y = 2 * (X / y) ∧ X' % y = 2 * (X % y) + b) ∧ (y ≤ 2 * (X % y) + b → X' / y = 2 * (X / y) + 1 ∧ X' % y = 2 * (X % y) + b - y) := by
  have h0 := Int.emod_nonneg X (show y ≠ 0 by omega)
  have h1 := Int.emod_lt_of_pos X hy
  have h2 : X = y * (X / y) + X % y := (Int.mul_ediv_add_emod X y).symm
  generalize X % y = r at *
  generalize X / y = q at *
  have e3 : y * (2 * q) = 2 * (y * q) := by rw [← Int.mul_assoc, Int.mul_comm y 2, Int.mul_assoc]
  have e4 : y * (2 * q + 1) = 2 * (y * q) + y := by rw [Int.mul_add, e3, Int.mul_one]
  constructor
  · intro c
    exact div_uniq (by omega) c (by rw [e3]; omega)
  · intro c
    exact div_uniq (by omega) (by omega) (by rw [e4]; omega)

def b69 : T :=
  (.ite (.cmp .lss (.var 6) (.int 0)) (.leaf (.res [(.toI (.var 7)), (.toI (.var 8)), (.toB (.bool false)), (.toI (.var 9)), (.toI (.var 10)), (.toB (.var 11))])) (.need (.pre 82 (.cons (.toI (.var 0)) (.cons (.toI (.var 1)) (.cons (.toB (.var 2)) (.cons (.toI (.var 6)) .nil))))) (.need (.pre 71 (.cons (.toI (.var 3)) (.cons (.toI (.var 4)) (.cons (.toB (.var 5)) (.cons (.toI (.ar .or .u64 (.ar .shl .u64 (.var 9) (.int 1)) (.ar .shr .u64 (.var 10) (.int 63)))) (.cons (.toI (.ar .or .u64 (.ar .shl .u64 (.var 10) (.int 1)) (.app 82 (.cons (.toI (.var 0)) (.cons (.toI (.var 1)) (.cons (.toB (.var 2)) (.cons (.toI (.var 6)) .nil)))) 0))) (.cons (.toB (.bool false)) .nil))))))) (.ite (.app 71 (.cons (.toI (.var 3)) (.cons (.toI (.var 4)) (.cons (.toB (.var 5)) (.cons (.toI (.ar .or .u64 (.ar .shl .u64 (.var 9) (.int 1)) (.ar .shr .u64 (.var 10) (.int 63)))) (.cons (.toI (.ar .or .u64 (.ar .shl .u64 (.var 10) (.int 1)) (.app 82 (.cons (.toI (.var 0)) (.cons (.toI (.var 1)) (.cons (.toB (.var 2)) (.cons (.toI (.var 6)) .nil)))) 0))) (.cons (.toB (.bool false)) .nil)))))) 0) (.leaf (.cont 0 [(.ar .sub .i64 (.var 6) (.int 1)), (.ar .or .u64 (.ar .shl .u64 (.var 7) (.int 1)) (.ar .shr .u64 (.var 8) (.int 63))), (.ar .shl .u64 (.var 8) (.int 1)), (.ar .or .u64 (.ar .shl .u64 (.var 9) (.int 1)) (.ar .shr .u64 (.var 10) (.int 63))), (.ar .or .u64 (.ar .shl .u64 (.var 10) (.int 1)) (.app 82 (.cons (.toI (.var 0)) (.cons (.toI (.var 1)) (.cons (.toB (.var 2)) (.cons (.toI (.var 6)) .nil)))) 0)), (.bool false)])) (.need (.pre 44 (.cons (.toI (.ar .or .u64 (.ar .shl .u64 (.var 9) (.int 1)) (.ar .shr .u64 (.var 10) (.int 63)))) (.cons (.toI (.ar .or .u64 (.ar .shl .u64 (.var 10) (.int 1)) (.app 82 (.cons (.toI (.var 0)) (.cons (.toI (.var 1)) (.cons (.toB (.var 2)) (.cons (.toI (.var 6)) .nil)))) 0))) (.cons (.toB (.bool false)) (.cons (.toI (.var 3)) (.cons (.toI (.var 4)) (.cons (.toB (.bool true)) .nil))))))) (.leaf (.cont 0 [(.ar .sub .i64 (.var 6) (.int 1)), (.ar .or .u64 (.ar .shl .u64 (.var 7) (.int 1)) (.ar .shr .u64 (.var 8) (.int 63))), (.ar .or .u64 (.ar .shl .u64 (.var 8) (.int 1)) (.int 1)), (.app 44 (.cons (.toI (.ar .or .u64 (.ar .shl .u64 (.var 9) (.int 1)) (.ar .shr .u64 (.var 10) (.int 63)))) (.cons (.toI (.ar .or .u64 (.ar .shl .u64 (.var 10) (.int 1)) (.app 82 (.cons (.toI (.var 0)) (.cons (.toI (.var 1)) (.cons (.toB (.var 2)) (.cons (.toI (.var 6)) .nil)))) 0))) (.cons (.toB (.bool false)) (.cons (.toI (.var 3)) (.cons (.toI (.var 4)) (.cons (.toB (.bool true)) .nil)))))) 0), (.app 44 (.cons (.toI (.ar .or .u64 (.ar .shl .u64 (.var 9) (.int 1)) (.ar .shr .u64 (.var 10) (.int 63)))) (.cons (.toI (.ar .or .u64 (.ar .shl .u64 (.var 10) (.int 1)) (.app 82 (.cons (.toI (.var 0)) (.cons (.toI (.var 1)) (.cons (.toB (.var 2)) (.cons (.toI (.var 6)) .nil)))) 0))) (.cons (.toB (.bool false)) (.cons (.toI (.var 3)) (.cons (.toI (.var 4)) (.cons (.toB (.bool true)) .nil)))))) 1), (.app 44 (.cons (.toI (.ar .or .u64 (.ar .shl .u64 (.var 9) (.int 1)) (.ar .shr .u64 (.var 10) (.int 63)))) (.cons (.toI (.ar .or .u64 (.ar .shl .u64 (.var 10) (.int 1)) (.app 82 (.cons (.toI (.var 0)) (.cons (.toI (.var 1)) (.cons (.toB (.var 2)) (.cons (.toI (.var 6)) .nil)))) 0))) (.cons (.toB (.bool false)) (.cons (.toI (.var 3)) (.cons (.toI (.var 4)) (.cons (.toB (.bool true)) .nil)))))) 2)])))))))
theorem t69l : fnT (cfgOf Tryd.prog sigs [82, 71, 44] [39, 74, 83, 84] (fun f r => if f = 69 then (if r = 3 then some ⟨[(8, (.int .i64))], [(6, 0, (.int .u64)), (6, 1, (.int .u64)), (7, 0, (.int .u64)), (7, 1, (.int .u64)), (7, 2, .bool)]⟩ else none) else none)) 69 Tryd.f69 (bodyOf Tryd.f69) ⟨[(.agg [.int .u64, .int .u64, .bool]), (.agg [.int .u64, .int .u64, .bool])], [(.agg [.int .u64, .int .u64, .bool]), (.agg [.int .u64, .int .u64, .bool])], none, none, none⟩ 100 =
  (.loop [(.int 127), (.int 0), (.int 0), (.int 0), (.int 0), (.bool false)] b69) := by kernel_rfl
theorem b69h (h : Int) (l : Int) (s : Bool) (i : Int) (m : Int) (t : Bool) (k : Int) (qh : Int) (ql : Int) (rh : Int) (rl : Int) (rs : Bool) (it0 : List Sc → Prop) (Q : List Sc → Prop) : b69.holds Φ [.int h, .int l, .bool s, .int i, .int m, .bool t, .int k, .int qh, .int ql, .int rh, .int rl, .bool rs] (loopQ it0 Φ (resQ Φ Q)) =
  (cond (cmpI .lss k 0)
   (Q [.int qh, .int ql, .bool false, .int rh, .int rl, .bool rs])
   (cond (bitP h l s k)
   (cond (abvP i m t (arI .or .u64 (arI .shl .u64 rh 1) (arI .shr .u64 rl 63)) (arI .or .u64 (arI .shl .u64 rl 1) (bit0 h l s k)) false)
   (cond (abv0 i m t (arI .or .u64 (arI .shl .u64 rh 1) (arI .shr .u64 rl 63)) (arI .or .u64 (arI .shl .u64 rl 1) (bit0 h l s k)) false)
    (it0 [.int (arI .sub .i64 k 1), .int (arI .or .u64 (arI .shl .u64 qh 1) (arI .shr .u64 ql 63)), .int (arI .shl .u64 ql 1), .int (arI .or .u64 (arI .shl .u64 rh 1) (arI .shr .u64 rl 63)), .int (arI .or .u64 (arI .shl .u64 rl 1) (bit0 h l s k)), .bool false])
    (cond (pluP (arI .or .u64 (arI .shl .u64 rh 1) (arI .shr .u64 rl 63)) (arI .or .u64 (arI .shl .u64 rl 1) (bit0 h l s k)) false i m true)
    (it0 [.int (arI .sub .i64 k 1), .int (arI .or .u64 (arI .shl .u64 qh 1) (arI .shr .u64 ql 63)), .int (arI .or .u64 (arI .shl .u64 ql 1) 1), .int (plu0 (arI .or .u64 (arI .shl .u64 rh 1) (arI .shr .u64 rl 63)) (arI .or .u64 (arI .shl .u64 rl 1) (bit0 h l s k)) false i m true), .int (plu1 (arI .or .u64 (arI .shl .u64 rh 1) (arI .shr .u64 rl 63)) (arI .or .u64 (arI .shl .u64 rl 1) (bit0 h l s k)) false i m true), .bool (plu2 (arI .or .u64 (arI .shl .u64 rh 1) (arI .shr .u64 rl 63)) (arI .or .u64 (arI .shl .u64 rl 1) (bit0 h l s k)) false i m true)])
    False))
   False)
   False)) := by kernel_rfl
theorem t69 (h : Int) (l : Int) (s : Bool) (i : Int) (m : Int) (t : Bool) (Q : List Sc → Prop) : (fnT (cfgOf Tryd.prog sigs [82, 71, 44] [39, 74, 83, 84] (fun f r => if f = 69 then (if r = 3 then some ⟨[(8, (.int .i64))], [(6, 0, (.int .u64)), (6, 1, (.int .u64)), (7, 0, (.int .u64)), (7, 1, (.int .u64)), (7, 2, .bool)]⟩ else none) else none)) 69 Tryd.f69 (bodyOf Tryd.f69) ⟨[(.agg [.int .u64, .int .u64, .bool]), (.agg [.int .u64, .int .u64, .bool])], [(.agg [.int .u64, .int .u64, .bool]), (.agg [.int .u64, .int .u64, .bool])], none, none, none⟩ 100).holds Φ [.int h, .int l, .bool s, .int i, .int m, .bool t] (resQ Φ Q) =
  (∃ n₀, iterH (fun ρ' Q' => b69.holds Φ ρ' Q') Φ [.int h, .int l, .bool s, .int i, .int m, .bool t] (resQ Φ Q) n₀ [.int 127, .int 0, .int 0, .int 0, .int 0, .bool false]) := by rw [t69l]; rfl
def b68 : T :=
  (.need (.pre 57 (.cons (.toI (.var 9)) (.cons (.toI (.var 10)) (.cons (.toB (.var 11)) .nil)))) (.ite (.app 57 (.cons (.toI (.var 9)) (.cons (.toI (.var 10)) (.cons (.toB (.var 11)) .nil))) 0) (.leaf (.res [(.toI (.var 6)), (.toI (.var 7)), (.toB (.bool false))])) (.need (.pre 69 (.cons (.toI (.var 6)) (.cons (.toI (.var 7)) (.cons (.toB (.var 8)) (.cons (.toI (.var 9)) (.cons (.toI (.var 10)) (.cons (.toB (.var 11)) .nil))))))) (.leaf (.cont 0 [(.var 9), (.var 10), (.var 11), (.app 69 (.cons (.toI (.var 6)) (.cons (.toI (.var 7)) (.cons (.toB (.var 8)) (.cons (.toI (.var 9)) (.cons (.toI (.var 10)) (.cons (.toB (.var 11)) .nil)))))) 3), (.app 69 (.cons (.toI (.var 6)) (.cons (.toI (.var 7)) (.cons (.toB (.var 8)) (.cons (.toI (.var 9)) (.cons (.toI (.var 10)) (.cons (.toB (.var 11)) .nil)))))) 4), (.app 69 (.cons (.toI (.var 6)) (.cons (.toI (.var 7)) (.cons (.toB (.var 8)) (.cons (.toI (.var 9)) (.cons (.toI (.var 10)) (.cons (.toB (.var 11)) .nil)))))) 5)])))))
theorem t68l : fnT (cfgOf Tryd.prog sigs [57, 69] [39, 74, 83, 84] (fun f r => if f = 68 then (if r = 1 then some ⟨[], [(2, 0, (.int .u64)), (2, 1, (.int .u64)), (2, 2, .bool), (3, 0, (.int .u64)), (3, 1, (.int .u64)), (3, 2, .bool)]⟩ else none) else none)) 68 Tryd.f68 (bodyOf Tryd.f68) ⟨[(.agg [.int .u64, .int .u64, .bool]), (.agg [.int .u64, .int .u64, .bool])], [(.agg [.int .u64, .int .u64, .bool])], none, none, none⟩ 100 =
  (.loop [(.var 0), (.var 1), (.var 2), (.var 3), (.var 4), (.var 5)] b68) := by kernel_rfl
theorem b68h (h : Int) (l : Int) (s : Bool) (i : Int) (m : Int) (t : Bool) (xh : Int) (xl : Int) (xs : Bool) (yh : Int) (yl : Int) (ys : Bool) (it0 : List Sc → Prop) (Q : List Sc → Prop) : b68.holds Φ [.int h, .int l, .bool s, .int i, .int m, .bool t, .int xh, .int xl, .bool xs, .int yh, .int yl, .bool ys] (loopQ it0 Φ (resQ Φ Q)) =
  (cond (zer0 yh yl ys)
   (Q [.int xh, .int xl, .bool false])
   (cond (dvdP xh xl xs yh yl ys)
   (it0 [.int yh, .int yl, .bool ys, .int (dvd3 xh xl xs yh yl ys), .int (dvd4 xh xl xs yh yl ys), .bool (dvd5 xh xl xs yh yl ys)])
   False)) := by kernel_rfl
theorem t68 (h : Int) (l : Int) (s : Bool) (i : Int) (m : Int) (t : Bool) (Q : List Sc → Prop) : (fnT (cfgOf Tryd.prog sigs [57, 69] [39, 74, 83, 84] (fun f r => if f = 68 then (if r = 1 then some ⟨[], [(2, 0, (.int .u64)), (2, 1, (.int .u64)), (2, 2, .bool), (3, 0, (.int .u64)), (3, 1, (.int .u64)), (3, 2, .bool)]⟩ else none) else none)) 68 Tryd.f68 (bodyOf Tryd.f68) ⟨[(.agg [.int .u64, .int .u64, .bool]), (.agg [.int .u64, .int .u64, .bool])], [(.agg [.int .u64, .int .u64, .bool])], none, none, none⟩ 100).holds Φ [.int h, .int l, .bool s, .int i, .int m, .bool t] (resQ Φ Q) =
  (∃ n₀, iterH (fun ρ' Q' => b68.holds Φ ρ' Q') Φ [.int h, .int l, .bool s, .int i, .int m, .bool t] (resQ Φ Q) n₀ [.int h, .int l, .bool s, .int i, .int m, .bool t]) := by rw [t68l]; rfl
theorem c82 : CT Tryd.prog sigs Φ 82 :=
  ct_of [] [39, 74, 83, 84] noLoop 100 mixed rfl Tryd.func82 (by kernel_rfl) forall_nil fun l0 hl0 hp => by
    obtain ⟨h, l1, rfl, hl1⟩ := canon_int hl0
    obtain ⟨l, l2, rfl, hl2⟩ := canon_int hl1
    obtain ⟨s, l3, rfl, hl3⟩ := canon_bool hl2
    obtain ⟨k, l4, rfl, hl4⟩ := canon_int hl3
    cases canon_nil hl4
    clear hl4 hl3 hl2 hl1 hl0
    have hp : bitP h l s k = true := hp
    show T.holds _ _ _ (resQ Φ fun rs => rs = [.int (bit0 h l s k)])
    rw [t82]
    simp only [bitP, Bool.and_eq_true, uu_iff, decide_eq_true_eq] at hp
    have e64 : (18446744073709551616 : Int) = 2 ^ 64 := by decide
    by_cases hk : k < 64
    · rw [lss_d, lss_d, decide_eq_true hk, decide_eq_false (p := k < 0) (by omega), u64_shr k (by omega)]
      have p0 := two_pos k.toNat
      have q0 : 0 ≤ l / 2 ^ k.toNat := Int.ediv_nonneg (by omega) (by omega)
      have q1 : l / 2 ^ k.toNat ≤ l := Int.ediv_le_self _ (by omega)
      rw [u64_and1 q0 (by omega)]
      have ep : (18446744073709551616 : Int) = 2 ^ (63 - k.toNat) * 2 * 2 ^ k.toNat := by
        rw [e64, pow_split (a := k.toNat) (b := 64) (by omega), show 64 - k.toNat = 63 - k.toNat + 1 by omega, Int.pow_succ]
      have e : bit0 h l s k = l / 2 ^ k.toNat % 2 := by
        show (h * 18446744073709551616 + l) / 2 ^ k.toNat % 2 = _
        rw [ep, ← Int.mul_assoc, Int.add_comm, Int.add_mul_ediv_right _ _ (by omega), ← Int.mul_assoc]
        exact Int.add_mul_emod_self_right ..
      rw [e]
      rfl
    · rw [lss_d, decide_eq_false hk, ar_sub (by omega) (by omega), lss_d (k - 64), decide_eq_false (p := k - 64 < 0) (by omega), u64_shr (k - 64) (by omega)]
      have p0 := two_pos (k - 64).toNat
      have q0 : 0 ≤ h / 2 ^ (k - 64).toNat := Int.ediv_nonneg (by omega) (by omega)
      have q1 : h / 2 ^ (k - 64).toNat ≤ h := Int.ediv_le_self _ (by omega)
      rw [u64_and1 q0 (by omega)]
      have e : bit0 h l s k = h / 2 ^ (k - 64).toNat % 2 := by
        show (h * 18446744073709551616 + l) / 2 ^ k.toNat % 2 = _
        have e1 : (2 : Int) ^ k.toNat = 18446744073709551616 * 2 ^ (k - 64).toNat := by
          rw [pow_split (a := (k - 64).toNat) (b := k.toNat) (by omega), show k.toNat - (k - 64).toNat = 64 by omega, e64]
        rw [e1, ← Int.ediv_ediv_of_nonneg (by decide)]
        have e2 : (h * 18446744073709551616 + l) / 18446744073709551616 = h := by omega
        rw [e2]
      rw [e]
      rfl

theorem c69 : CT Tryd.prog sigs Φ 69 :=
  ct_of [82, 71, 44] [39, 74, 83, 84] (fun f r => if f = 69 then (if r = 3 then some ⟨[(8, (.int .i64))], [(6, 0, (.int .u64)), (6, 1, (.int .u64)), (7, 0, (.int .u64)), (7, 1, (.int .u64)), (7, 2, .bool)]⟩ else none) else none) 100 mixed rfl Tryd.func69 (by kernel_rfl) (forall_cons c82 (forall_cons c71 (forall_cons c44 forall_nil))) fun l0 hl0 hp => by
    obtain ⟨h, l1, rfl, hl1⟩ := canon_int hl0
    obtain ⟨l, l2, rfl, hl2⟩ := canon_int hl1
    obtain ⟨s, l3, rfl, hl3⟩ := canon_bool hl2
    obtain ⟨i, l4, rfl, hl4⟩ := canon_int hl3
    obtain ⟨m, l5, rfl, hl5⟩ := canon_int hl4
    obtain ⟨t, l6, rfl, hl6⟩ := canon_bool hl5
    cases canon_nil hl6
    clear hl6 hl5 hl4 hl3 hl2 hl1 hl0
    have hp : dvdP h l s i m t = true := hp
    show T.holds _ _ _ (resQ Φ fun rs => rs = [.int (dvd0 h l s i m t), .int (dvd1 h l s i m t), .bool (dvd2 h l s i m t), .int (dvd3 h l s i m t), .int (dvd4 h l s i m t), .bool (dvd5 h l s i m t)])
    rw [t69]
    simp only [dvdP, Bool.and_eq_true, wu_iff, decide_eq_true_eq] at hp
    have hx0 : 0 ≤ mg h l := by unfold mg; omega
    have hx1 : mg h l < 85070591730234615865843651857942052864 := by unfold mg; omega
    have hy0 : 0 < mg i m := hp.2
    have hy1 : mg i m < 85070591730234615865843651857942052864 := by unfold mg; omega
    refine iter_inv (I := fun n vs => n ≤ 128 ∧ ∃ qh ql rh rl : Int, vs = [.int ((n : Int) - 1), .int qh, .int ql, .int rh, .int rl, .bool false] ∧ 0 ≤ qh ∧ (0 ≤ ql ∧ ql < 18446744073709551616) ∧ 0 ≤ rh ∧ (0 ≤ rl ∧ rl < 18446744073709551616) ∧ mg qh ql = mg h l / 2 ^ n / mg i m ∧ mg rh rl = mg h l / 2 ^ n % mg i m) ?_ 128 _ ⟨Nat.le_refl _, 0, 0, 0, 0, rfl, ?_⟩
    · rintro n vs ⟨hn, qh, ql, rh, rl, rfl, q0, q1, r0, r1, eq, er⟩ it hit
      show b69.holds Φ [.int h, .int l, .bool s, .int i, .int m, .bool t, .int ((n : Int) - 1), .int qh, .int ql, .int rh, .int rl, .bool false] _
      rw [b69h]
      cases n with
      | zero =>
        rw [lss_d, decide_eq_true (by omega)]
        show [Sc.int qh, .int ql, .bool false, .int rh, .int rl, .bool false] = _
        rw [show ((2 : Int) ^ 0) = 1 from rfl, Int.ediv_one] at eq er
        simp only [dvd0, dvd1, dvd2, dvd3, dvd4, dvd5, ← eq, ← er]
        have e1 : (qh * 18446744073709551616 + ql) / 18446744073709551616 = qh := by omega
        have e2 : (qh * 18446744073709551616 + ql) % 18446744073709551616 = ql := by omega
        have e3 : (rh * 18446744073709551616 + rl) / 18446744073709551616 = rh := by omega
        have e4 : (rh * 18446744073709551616 + rl) % 18446744073709551616 = rl := by omega
        rw [e1, e2, e3, e4]
      | succ k =>
        have ek : ((k + 1 : Nat) : Int) - 1 = (k : Int) := by omega
        rw [ek, lss_d, decide_eq_false (p := (k : Int) < 0) (by omega)]
        have bp : bitP h l s (k : Int) = true := by unfold bitP; simp only [Bool.and_eq_true, uu_iff, decide_eq_true_eq]; omega
        rw [bp]
        have hb : bit0 h l s (k : Int) = mg h l / 2 ^ k % 2 := rfl
        have hX : mg h l / 2 ^ (k + 1) = mg h l / 2 ^ k / 2 := by rw [Int.pow_succ, Int.ediv_ediv_of_nonneg (Int.le_of_lt (two_pos k))]
        have hr := dvd_round (X := mg h l / 2 ^ (k + 1)) (X' := mg h l / 2 ^ k) (y := mg i m) (b := bit0 h l s (k : Int)) hy0 (by rw [hX, hb]; omega) (by rw [hb]; omega) (by rw [hb]; omega)
        have hb0 : 0 ≤ bit0 h l s (k : Int) ∧ bit0 h l s (k : Int) ≤ 1 := by rw [hb]; omega
        have rlt : mg rh rl < mg i m := by rw [er]; exact Int.emod_lt_of_pos _ hy0
        have qb : mg h l / 2 ^ (k + 1) / mg i m ≤ mg h l := by
          have a1 : 0 ≤ mg h l / 2 ^ (k + 1) := Int.ediv_nonneg hx0 (Int.le_of_lt (two_pos _))
          exact Int.le_trans (Int.ediv_le_self _ a1) (Int.ediv_le_self _ hx0)
        have rX : mg h l / 2 ^ (k + 1) % mg i m ≤ mg h l / 2 ^ (k + 1) := by
          have a1 : 0 ≤ mg h l / 2 ^ (k + 1) := Int.ediv_nonneg hx0 (Int.le_of_lt (two_pos _))
          have a2 : 0 ≤ mg i m * (mg h l / 2 ^ (k + 1) / mg i m) := Int.mul_nonneg (Int.le_of_lt hy0) (Int.ediv_nonneg a1 (Int.le_of_lt hy0))
          have a3 := Int.mul_ediv_add_emod (mg h l / 2 ^ (k + 1)) (mg i m)
          omega
        have rX' : 2 * (mg h l / 2 ^ (k + 1)) + bit0 h l s (k : Int) ≤ mg h l := by
          have a1 : mg h l / 2 ^ k ≤ mg h l := Int.ediv_le_self _ hx0
          rw [hX, hb]
          omega
        rw [← er] at rX
        rw [← eq, ← er] at hr
        rw [← eq] at qb
        generalize bit0 h l s (k : Int) = b at hr hb0 rX' ⊢
        have s1 : arI .or .u64 (arI .shl .u64 rh 1) (arI .shr .u64 rl 63) = 2 * rh + rl / 9223372036854775808 := by
          rw [u64_shl 1 (by omega), u64_shr 63 (by omega), show (2 : Int) ^ (1 : Int).toNat = 2 from rfl, show (2 : Int) ^ (63 : Int).toNat = 9223372036854775808 from rfl]
          simp only [mg] at rlt hy1
          rw [u64_orJ 1 (by omega) (by omega) (by omega) (by omega) (by omega) (by omega)]
          omega
        have s2 : arI .or .u64 (arI .shl .u64 rl 1) b = 2 * rl % 18446744073709551616 + b := by
          rw [u64_shl 1 (by omega), show (2 : Int) ^ (1 : Int).toNat = 2 from rfl, u64_orJ 1 (by omega) (by omega) (by omega) (by omega) (by omega) (by omega)]
          omega
        have s3 : arI .or .u64 (arI .shl .u64 qh 1) (arI .shr .u64 ql 63) = 2 * qh + ql / 9223372036854775808 := by
          rw [u64_shl 1 (by omega), u64_shr 63 (by omega), show (2 : Int) ^ (1 : Int).toNat = 2 from rfl, show (2 : Int) ^ (63 : Int).toNat = 9223372036854775808 from rfl]
          simp only [mg] at qb hx1
          rw [u64_orJ 1 (by omega) (by omega) (by omega) (by omega) (by omega) (by omega)]
          omega
        have s4 : arI .shl .u64 ql 1 = 2 * ql % 18446744073709551616 := by
          rw [u64_shl 1 (by omega), show (2 : Int) ^ (1 : Int).toNat = 2 from rfl, Int.mul_comm]
        have s5 : arI .or .u64 (2 * ql % 18446744073709551616) 1 = 2 * ql % 18446744073709551616 + 1 := by
          rw [u64_orJ 1 (by omega) (by omega) (by omega) (by omega) (by omega) (by omega)]
        rw [s1, s2, s3, s4, s5]
        have m1 : mg (2 * rh + rl / 9223372036854775808) (2 * rl % 18446744073709551616 + b) = 2 * mg rh rl + b := by unfold mg; omega
        have m2 : mg (2 * qh + ql / 9223372036854775808) (2 * ql % 18446744073709551616) = 2 * mg qh ql := by unfold mg; omega
        have m3 : mg (2 * qh + ql / 9223372036854775808) (2 * ql % 18446744073709551616 + 1) = 2 * mg qh ql + 1 := by unfold mg; omega
        have rh1 : rh < 4611686018427387904 := by simp only [mg] at rlt hy1; omega
        have ap : abvP i m t (2 * rh + rl / 9223372036854775808) (2 * rl % 18446744073709551616 + b) false = true := by unfold abvP; simp only [Bool.and_eq_true, uu_iff]; omega
        rw [ap]
        simp only [abv0, m1]
        rw [ar_sub (by omega) (by omega)]
        by_cases c : 2 * mg rh rl + b < mg i m
        · rw [decide_eq_true c]
          obtain ⟨f1, f2⟩ := hr.1 c
          refine hit k _ rfl ⟨by omega, _, _, _, _, rfl, by omega, by omega, by omega, by omega, ?_, ?_⟩
          · rw [m2, f1]
          · rw [m1, f2]
        · rw [decide_eq_false c]
          obtain ⟨f1, f2⟩ := hr.2 (by omega)
          have pp : pluP (2 * rh + rl / 9223372036854775808) (2 * rl % 18446744073709551616 + b) false i m true = true := by
            unfold pluP
            simp only [Bool.and_eq_true, wu_iff]
            have z : 2 * mg rh rl + b ≤ mg h l := by omega
            simp only [mg] at z hx1
            omega
          rw [pp]
          simp only [plu0, plu1, plu2, m1]
          rw [if_neg (show ¬ ((false == true) = true) by decide), if_neg (show ¬ 2 * mg rh rl + b < mg i m from c)]
          have ea : ab (2 * mg rh rl + b - mg i m) = 2 * mg rh rl + b - mg i m := by unfold ab; rw [if_neg (by omega)]
          rw [ea]
          refine hit k _ rfl ⟨by omega, _, _, _, _, rfl, by omega, by omega, by omega, by omega, ?_, ?_⟩
          · rw [m3, f1]
          · rw [f2]; unfold mg; omega
    · refine ⟨by omega, by omega, by omega, by omega, ?_, ?_⟩
      · have : mg h l / 2 ^ 128 = 0 := Int.ediv_eq_zero_of_lt hx0 (by omega)
        rw [this, Int.zero_ediv]; rfl
      · have : mg h l / 2 ^ 128 = 0 := Int.ediv_eq_zero_of_lt hx0 (by omega)
        rw [this, Int.zero_emod]; rfl


theorem gI_step {x y : Int} (hx : 0 ≤ x) (hy : 0 ≤ y) : gI y (x % y) = gI x y := by
  unfold gI
  by_cases h0 : y = 0
  · subst h0; rw [Int.emod_zero, Nat.gcd_comm]
  · rw [show (x % y).natAbs = x.natAbs % y.natAbs by rw [← Int.tmod_eq_emod_of_nonneg hx, Int.natAbs_tmod], Nat.gcd_comm x.natAbs, Nat.gcd_rec y.natAbs x.natAbs, Nat.gcd_comm]
theorem gI_zero {x : Int} (hx : 0 ≤ x) : gI x 0 = x := by
  unfold gI
  rw [Int.natAbs_zero, Nat.gcd_zero_right]
  omega

theorem c68 : CT Tryd.prog sigs Φ 68 :=
  ct_of [57, 69] [39, 74, 83, 84] (fun f r => if f = 68 then (if r = 1 then some ⟨[], [(2, 0, (.int .u64)), (2, 1, (.int .u64)), (2, 2, .bool), (3, 0, (.int .u64)), (3, 1, (.int .u64)), (3, 2, .bool)]⟩ else none) else none) 100 mixed rfl Tryd.func68 (by kernel_rfl) (forall_cons c57 (forall_cons c69 forall_nil)) fun l0 hl0 hp => by
    obtain ⟨h, l1, rfl, hl1⟩ := canon_int hl0
    obtain ⟨l, l2, rfl, hl2⟩ := canon_int hl1
    obtain ⟨s, l3, rfl, hl3⟩ := canon_bool hl2
    obtain ⟨i, l4, rfl, hl4⟩ := canon_int hl3
    obtain ⟨m, l5, rfl, hl5⟩ := canon_int hl4
    obtain ⟨t, l6, rfl, hl6⟩ := canon_bool hl5
    cases canon_nil hl6
    clear hl6 hl5 hl4 hl3 hl2 hl1 hl0
    have hp : comP h l s i m t = true := hp
    show T.holds _ _ _ (resQ Φ fun rs => rs = [.int (com0 h l s i m t), .int (com1 h l s i m t), .bool (com2 h l s i m t)])
    rw [t68]
    simp only [comP, Bool.and_eq_true, wu_iff] at hp
    have hy0 : 0 ≤ mg i m := by unfold mg; omega
    refine iter_inv (I := fun n vs => ∃ xh xl yh yl : Int, ∃ xs ys : Bool, vs = [.int xh, .int xl, .bool xs, .int yh, .int yl, .bool ys] ∧ wu xh xl = true ∧ wu yh yl = true ∧ mg yh yl ≤ n ∧ gI (mg xh xl) (mg yh yl) = gI (mg h l) (mg i m)) ?_ (mg i m).toNat _ ⟨h, l, i, m, s, t, rfl, by rw [wu_iff]; omega, by rw [wu_iff]; omega, by omega, rfl⟩
    rintro n vs ⟨xh, xl, yh, yl, xs, ys, rfl, wx, wy, hn, hg⟩ it hit
    show b68.holds Φ [.int h, .int l, .bool s, .int i, .int m, .bool t, .int xh, .int xl, .bool xs, .int yh, .int yl, .bool ys] _
    rw [b68h]
    have wx' := wx
    have wy' := wy
    rw [wu_iff] at wx' wy'
    have X0 : 0 ≤ mg xh xl := by unfold mg; omega
    have Y0 : 0 ≤ mg yh yl := by unfold mg; omega
    simp only [zer0]
    by_cases c : yh = 0 ∧ yl = 0
    · obtain ⟨rfl, rfl⟩ := c
      rw [show (decide ((0 : Int) = 0) && decide ((0 : Int) = 0)) = true from rfl]
      show [Sc.int xh, .int xl, .bool false] = _
      rw [show mg 0 0 = 0 from rfl, gI_zero X0] at hg
      simp only [com0, com1, com2, ← hg, mg]
      have e1 : (xh * 18446744073709551616 + xl) / 18446744073709551616 = xh := by omega
      have e2 : (xh * 18446744073709551616 + xl) % 18446744073709551616 = xl := by omega
      rw [e1, e2]
    · have Y1 : 0 < mg yh yl := by unfold mg; omega
      have cf : (decide (yh = 0) && decide (yl = 0)) = false := by
        by_cases c1 : yh = 0
        · by_cases c2 : yl = 0
          · exact absurd ⟨c1, c2⟩ c
          · simp [c2]
        · simp [c1]
      have dp : dvdP xh xl xs yh yl ys = true := by unfold dvdP; rw [wx, wy, decide_eq_true Y1]; rfl
      rw [cf, dp]
      simp only [dvd3, dvd4, dvd5]
      have R0 := Int.emod_nonneg (mg xh xl) (show mg yh yl ≠ 0 by omega)
      have R1 := Int.emod_lt_of_pos (mg xh xl) Y1
      have em : mg (mg xh xl % mg yh yl / 18446744073709551616) (mg xh xl % mg yh yl % 18446744073709551616) = mg xh xl % mg yh yl := by
        generalize mg xh xl % mg yh yl = z
        unfold mg
        omega
      have Y2 : mg yh yl < 85070591730234615865843651857942052864 := by unfold mg; omega
      cases n with
      | zero => omega
      | succ k =>
        refine hit k _ rfl ⟨yh, yl, _, _, ys, false, rfl, wy, ?_, ?_, ?_⟩
        · rw [wu_iff]; generalize mg xh xl % mg yh yl = z at *; omega
        · rw [em]; omega
        · rw [em, gI_step X0 Y0]; exact hg

theorem c43 : CT Tryd.prog sigs Φ 43 :=
  ct_of [68, 69] [39, 74, 83, 84] noLoop 100 mixed rfl Tryd.func43 (by kernel_rfl) (forall_cons c68 (forall_cons c69 forall_nil)) fun l0 hl0 hp => by
    obtain ⟨h, l1, rfl, hl1⟩ := canon_int hl0
    obtain ⟨l, l2, rfl, hl2⟩ := canon_int hl1
    obtain ⟨s, l3, rfl, hl3⟩ := canon_bool hl2
    obtain ⟨i, l4, rfl, hl4⟩ := canon_int hl3
    obtain ⟨m, l5, rfl, hl5⟩ := canon_int hl4
    obtain ⟨t, l6, rfl, hl6⟩ := canon_bool hl5
    cases canon_nil hl6
    clear hl6 hl5 hl4 hl3 hl2 hl1 hl0
    have hp : lowP h l s i m t = true := hp
    show T.holds _ _ _ (resQ Φ fun rs => rs = [.int (low0 h l s i m t), .int (low1 h l s i m t), .int (low2 h l s i m t)])
    rw [t43]
    simp only [lowP, Bool.and_eq_true, decide_eq_true_eq] at hp
    obtain ⟨⟨w1, w2⟩, hD⟩ := hp
    have w1' := w1
    have w2' := w2
    rw [wu_iff] at w1' w2'
    have N0 : 0 ≤ mg h l := by unfold mg; omega
    have cp : comP i m t h l false = true := by unfold comP; rw [w1, w2]; rfl
    have G0 : 0 < gI (mg i m) (mg h l) := gI_pos (.inl hD)
    have G1 : gI (mg i m) (mg h l) ≤ mg i m := gI_le_left hD
    have D1 : mg i m < 85070591730234615865843651857942052864 := by unfold mg; omega
    have em : mg (gI (mg i m) (mg h l) / 18446744073709551616) (gI (mg i m) (mg h l) % 18446744073709551616) = gI (mg i m) (mg h l) := by
      generalize gI (mg i m) (mg h l) = z
      unfold mg
      omega
    have wg : wu (gI (mg i m) (mg h l) / 18446744073709551616) (gI (mg i m) (mg h l) % 18446744073709551616) = true := by
      rw [wu_iff]
      generalize gI (mg i m) (mg h l) = z at *
      omega
    rw [cp]
    simp only [com0, com1, com2]
    have d1 : dvdP h l s (gI (mg i m) (mg h l) / 18446744073709551616) (gI (mg i m) (mg h l) % 18446744073709551616) false = true := by unfold dvdP; rw [em, w1, wg, decide_eq_true G0]; rfl
    have d2 : dvdP i m t (gI (mg i m) (mg h l) / 18446744073709551616) (gI (mg i m) (mg h l) % 18446744073709551616) false = true := by unfold dvdP; rw [em, w2, wg, decide_eq_true G0]; rfl
    rw [d1, d2]
    simp only [dvd0, dvd1, em, lss_d]
    have n0 : 0 ≤ mg h l / gI (mg i m) (mg h l) := Int.ediv_nonneg N0 (Int.le_of_lt G0)
    have d0 : 0 ≤ mg i m / gI (mg i m) (mg h l) := Int.ediv_nonneg (Int.le_of_lt hD) (Int.le_of_lt G0)
    have eg : ∀ S : Bool, gI (if S = true then -mg h l else mg h l) (mg i m) = gI (mg i m) (mg h l) := by
      intro S
      rw [gI_comm]
      cases S
      · rfl
      · show gI (mg i m) (-mg h l) = _
        unfold gI
        rw [Int.natAbs_neg]
    have ea : ab (if s = true then -mg h l else mg h l) = mg h l := by
      unfold ab
      cases s
      · exact if_neg (by show ¬ (mg h l < 0); omega)
      · by_cases z : mg h l = 0
        · simp [z]
        · show (if -mg h l < 0 then - -mg h l else -mg h l) = _
          rw [if_pos (by omega)]; omega
    have et : (if s = true then -mg h l else mg h l).tdiv (gI (mg i m) (mg h l)) = if s = true then -(mg h l / gI (mg i m) (mg h l)) else mg h l / gI (mg i m) (mg h l) := by
      cases s
      · exact Int.tdiv_eq_ediv_of_nonneg N0
      · show (-mg h l).tdiv _ = -(mg h l / _)
        rw [Int.neg_tdiv, Int.tdiv_eq_ediv_of_nonneg N0]
    have fe := fr_eq (N := if s = true then -mg h l else mg h l) (D := mg i m) rfl rfl rfl
    rw [eg, ea, et] at fe
    simp only [low0, low1, low2]
    rw [fe.1, fe.2.1, fe.2.2]
    clear fe
    generalize mg h l / gI (mg i m) (mg h l) = a at n0 ⊢
    generalize mg i m / gI (mg i m) (mg h l) = b at d0 ⊢
    by_cases c1 : a < 1000000000000000000
    · have z1 : ¬ 0 < a / 18446744073709551616 := by omega
      have z2 : a % 18446744073709551616 = a := by omega
      rw [z2]
      by_cases c2 : b < 1000000000000000000
      · have z3 : ¬ 0 < b / 18446744073709551616 := by omega
        have z4 : b % 18446744073709551616 = b := by omega
        rw [z4, wrap_i64 (n := a) (by omega) (by omega), wrap_i64 (n := b) (by omega) (by omega), ar_sub (by omega) (by omega), Int.zero_sub]
        cases s <;> simp [z1, z3, c1, c2]
      · by_cases z3 : 0 < b / 18446744073709551616
        · simp [z1, z3, c1, c2]
        · have z4 : b % 18446744073709551616 = b := by omega
          rw [z4]
          simp [z1, z3, c1, c2]
    · by_cases z1 : 0 < a / 18446744073709551616
      · simp [z1, c1]
      · have z2 : a % 18446744073709551616 = a := by omega
        rw [z2]
        simp [z1, c1]

end Go.Proofs.YtkmffnjmiechfaaDoor
