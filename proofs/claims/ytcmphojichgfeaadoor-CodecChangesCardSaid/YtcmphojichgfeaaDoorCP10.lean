/- The codec seat: one byte changed changes the digest, in plain Lean. -/
import Derived.Test.YtcmphojichgfeaaDoorCH5
namespace Go.Proofs.YtcmphojichgfeaaDoor.QC
open Go.RowKit Go.Proofs.YtcmphojichgfeaaDoorW.PrintWords Go.Proofs.YtcmphojichgfeaaDoorW.PrintLast Go.Proofs.YtcmphojichgfeaaDoorW.PrintMore
set_option linter.unusedVariables false
set_option linter.unusedSimpArgs false
theorem rot7_inj {x y : Nat} (hx : x < 18446744073709551616) (hy : y < 18446744073709551616) (h : rot7 x = rot7 y) : x = y := by
  have key : ∀ z, z < 18446744073709551616 → ∃ q r, z = 144115188075855872 * q + r ∧ q < 128 ∧ rot7 z = r * 128 + q := by
    intro z hz
    have h1 := Nat.div_add_mod z 144115188075855872
    have h2 := Nat.mod_lt z (show 144115188075855872 > 0 by omega)
    have h3 : z / 144115188075855872 < 128 := Nat.div_lt_of_lt_mul (by omega)
    refine ⟨z / 144115188075855872, z % 144115188075855872, h1.symm, h3, ?_⟩
    unfold rot7
    generalize z / 144115188075855872 = q at *
    generalize z % 144115188075855872 = r at *
    rw [show z * 128 + q = (r * 128 + q) + 18446744073709551616 * q by omega, Nat.add_mul_mod_self_left]
    exact Nat.mod_eq_of_lt (by omega)
  obtain ⟨q, r, e1, e2, e3⟩ := key x hx
  obtain ⟨q', r', e1', e2', e3'⟩ := key y hy
  rw [e3, e3'] at h
  clear key e3 e3'
  have hq : q = q' := by omega
  have hr : r = r' := by omega
  rw [e1, e1', hq, hr]
theorem rot7_lt (x : Nat) : rot7 x < 2 ^ 64 := by unfold rot7; omega
theorem xor_cancel {a b c : Nat} (h : a ^^^ c = b ^^^ c) : a = b := by
  have h1 : (a ^^^ c) ^^^ c = (b ^^^ c) ^^^ c := by rw [h]
  rwa [Nat.xor_assoc, Nat.xor_assoc, Nat.xor_self, Nat.xor_zero, Nat.xor_zero] at h1
theorem xor_cancel_left {a b c : Nat} (h : c ^^^ a = c ^^^ b) : a = b := xor_cancel (by rwa [Nat.xor_comm c, Nat.xor_comm c] at h)
theorem mul_inj {x y : Nat} (hx : x < 18446744073709551616) (hy : y < 18446744073709551616) (h : x * 18397679294719823053 % 18446744073709551616 = y * 18397679294719823053 % 18446744073709551616) : x = y := by
  have e : ∀ z, z < 18446744073709551616 → (z * 18397679294719823053 % 18446744073709551616) * 5725274745694666757 % 18446744073709551616 = z := by
    intro z hz
    rw [Nat.mod_mul_mod, Nat.mul_assoc, show 18397679294719823053 * 5725274745694666757 = 5710046619856821070 * 18446744073709551616 + 1 by decide, Nat.mul_add, ← Nat.mul_assoc, Nat.mul_one, Nat.add_comm, Nat.add_mul_mod_self_right]
    exact Nat.mod_eq_of_lt hz
  rw [← e x hx, h, e y hy]
theorem dstep_inj {h h' : Nat} {b : UInt8} (hh : h < 18446744073709551616) (hh' : h' < 18446744073709551616) (e : dstep h b = dstep h' b) : h = h' := by
  rw [dstep_eq, dstep_eq] at e
  have b1 : b.toNat < 2 ^ 64 := Nat.lt_of_lt_of_le b.toNat_lt (by decide)
  have e2 := mul_inj (Nat.xor_lt_two_pow (rot7_lt h) b1) (Nat.xor_lt_two_pow (rot7_lt h') b1) e
  exact rot7_inj hh hh' (xor_cancel e2)
theorem dstep_byte {h : Nat} {b b' : UInt8} (e : dstep h b = dstep h b') : b = b' := by
  rw [dstep_eq, dstep_eq] at e
  have b1 : ∀ b : UInt8, b.toNat < 2 ^ 64 := fun b => Nat.lt_of_lt_of_le b.toNat_lt (by decide)
  have e2 := mul_inj (Nat.xor_lt_two_pow (rot7_lt h) (b1 b)) (Nat.xor_lt_two_pow (rot7_lt h) (b1 b')) e
  exact UInt8.toNat_inj.1 (xor_cancel_left e2)
theorem fold_inj : ∀ (l : List UInt8) {h h' : Nat}, h < 18446744073709551616 → h' < 18446744073709551616 → l.foldl dstep h = l.foldl dstep h' → h = h'
  | [], _, _, _, _, e => e
  | b :: l, h, h', hh, hh', e => dstep_inj hh hh' (fold_inj l (by have := dstep_le h b; omega) (by have := dstep_le h' b; omega) e)
theorem fold_change (l l2 : List UInt8) {b b' : UInt8} (hne : b ≠ b') (h : Nat) : (l ++ b :: l2).foldl dstep h ≠ (l ++ b' :: l2).foldl dstep h := by
  rw [List.foldl_append, List.foldl_append]
  intro e
  exact hne (dstep_byte (fold_inj l2 (by have := dstep_le (List.foldl dstep h l) b; omega) (by have := dstep_le (List.foldl dstep h l) b'; omega) e))
theorem dfin_dfin {h : Nat} (hh : h < 18446744073709551616) : dfin (dfin h) = h := by
  have hs : ∀ x : Nat, dfin x = x ^^^ (x >>> 32) := fun x => by rw [dfin, Nat.shiftRight_eq_div_pow]
  rw [hs, hs]
  apply Nat.eq_of_testBit_eq
  intro i
  have hz : h.testBit (32 + (32 + i)) = false := Nat.testBit_lt_two_pow (Nat.lt_of_lt_of_le hh (Nat.le_trans (show 18446744073709551616 ≤ 2 ^ 64 by decide) (Nat.pow_le_pow_right (by omega) (by omega))))
  simp only [Nat.testBit_xor, Nat.testBit_shiftRight]
  rw [hz]
  simp
theorem hexD_inj : ∀ a b : Fin 16, hexD a.val = hexD b.val → a = b := by decide
theorem hex_inj : ∀ (k : Nat) {a b : Nat}, a < 16 ^ k → b < 16 ^ k → hex k a = hex k b → a = b
  | 0, a, b, ha, hb, _ => by simp at ha hb; omega
  | k + 1, a, b, ha, hb, h => by
    rw [hex, hex] at h
    have hl := List.append_inj' h rfl
    have h1 := hex_inj k (by rw [Nat.pow_succ] at ha; exact Nat.div_lt_of_lt_mul (by rwa [Nat.mul_comm] at ha)) (by rw [Nat.pow_succ] at hb; exact Nat.div_lt_of_lt_mul (by rwa [Nat.mul_comm] at hb)) hl.1
    have h2 := hexD_inj ⟨a % 16, Nat.mod_lt _ (by omega)⟩ ⟨b % 16, Nat.mod_lt _ (by omega)⟩ (by simpa using hl.2)
    have h3 : a % 16 = b % 16 := by simpa using h2
    omega
theorem digB_inj {s t : ByteArray} (h : dhash s ≠ dhash t) : digB s ≠ digB t := by
  intro e
  have e1 : hex 16 (dfin (dhash s)) = hex 16 (dfin (dhash t)) := by
    have := congrArg (fun b : ByteArray => b.data.toList) e
    simpa [digB] using this
  have hs : dhash s ≤ 18446744073709551615 := dfold_le _
  have ht : dhash t ≤ 18446744073709551615 := dfold_le _
  have e2 := hex_inj 16 (Nat.lt_of_le_of_lt (dfin_le _ hs) (by decide)) (Nat.lt_of_le_of_lt (dfin_le _ ht) (by decide)) e1
  exact h (by rw [← dfin_dfin (show dhash s < _ by omega), e2, dfin_dfin (by omega)])
theorem digB_change {s : ByteArray} {i : Nat} (hi : i < s.size) {b : UInt8} (hb : s[i] ≠ b) {t : ByteArray} (ht : t.data.toList = s.data.toList.take i ++ b :: s.data.toList.drop (i + 1)) : (digB s).toList ≠ (digB t).toList := by
  rw [ByteArray.toList_eq, ByteArray.toList_eq]
  intro e
  refine digB_inj (s := s) (t := t) ?_ (by apply ByteArray.ext; exact Array.toList_inj.1 e)
  have hs : s.data.toList = s.data.toList.take i ++ s[i] :: s.data.toList.drop (i + 1) := by
    have h1 := List.take_append_drop i s.data.toList
    rw [List.drop_eq_getElem_cons (by simpa using hi)] at h1
    exact h1.symm
  unfold dhash
  rw [ht]
  intro e
  rw [hs] at e
  refine fold_change (s.data.toList.take i) (s.data.toList.drop (i + 1)) hb 11400714819323198485 ?_
  have h1 : List.take i (s.data.toList.take i ++ s[i] :: s.data.toList.drop (i + 1)) = s.data.toList.take i := by rw [← hs]
  have h2 : List.drop (i + 1) (s.data.toList.take i ++ s[i] :: s.data.toList.drop (i + 1)) = s.data.toList.drop (i + 1) := by rw [← hs]
  rw [h1, h2] at e
  exact e
end Go.Proofs.YtcmphojichgfeaaDoor.QC
