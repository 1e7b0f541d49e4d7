/- The codec seat: plain law: what is written is read, and what is read was written. -/
import Derived.Test.YtcmphojichgfeaaDoorCP3
namespace Go.Proofs.YtcmphojichgfeaaDoor.QC
open Go.RowKit Go.Proofs.YtcmphojichgfeaaDoorW.PrintWords Go.Proofs.YtcmphojichgfeaaDoorW.PrintLast Go.Proofs.YtcmphojichgfeaaDoorW.PrintMore
set_option linter.unusedVariables false
set_option linter.unusedSimpArgs false
/-- These bytes stand at this place. -/
def At (s : ByteArray) (i : Nat) (L : List Int) : Prop := ∀ j (h : j < L.length), i + j < s.size ∧ (byteAt s (i + j) : Int) = L[j]
theorem At.nil (s : ByteArray) (i : Nat) : At s i [] := fun j h => absurd h (by simp)
theorem At.cons_iff {s : ByteArray} {i : Nat} {b : Int} {L : List Int} : At s i (b :: L) ↔ (i < s.size ∧ (byteAt s i : Int) = b) ∧ At s (i + 1) L := by
  constructor
  · intro h
    refine ⟨h 0 (by simp), fun j hj => ?_⟩
    have := h (j + 1) (by simpa using hj)
    rw [show i + 1 + j = i + (j + 1) by omega]
    exact this
  · rintro ⟨h0, h⟩ j hj
    cases j with
    | zero => exact h0
    | succ j =>
      have := h j (by simpa using hj)
      rw [show i + (j + 1) = i + 1 + j by omega]
      exact this
theorem At.append_iff {s : ByteArray} : ∀ {A B : List Int} {i : Nat}, At s i (A ++ B) ↔ At s i A ∧ At s (i + A.length) B
  | [], B, i => by simp [At.nil]
  | a :: A, B, i => by
    rw [List.cons_append, At.cons_iff, At.cons_iff, At.append_iff (A := A), List.length_cons, show i + 1 + A.length = i + (A.length + 1) by omega]
    exact ⟨fun ⟨h1, h2, h3⟩ => ⟨⟨h1, h2⟩, h3⟩, fun ⟨⟨h1, h2⟩, h3⟩ => ⟨h1, h2, h3⟩⟩
theorem At.end_ {s : ByteArray} {L : List Int} {i : Nat} (h : At s i L) (hL : 1 ≤ L.length) : i + L.length ≤ s.size := by
  have := (h (L.length - 1) (by omega)).1
  omega
theorem byteAt_get (s : ByteArray) (i : Nat) (h : i < s.size) : byteAt s i = s[i].toNat := by
  unfold byteAt
  rw [List.getD_eq_getElem?_getD, List.getElem?_eq_getElem (by simpa using h), Option.getD_some]
  rfl
/-! ### Counts -/
theorem cntRd (s : ByteArray) : ∀ (r n acc i : Nat), 1 ≤ r → r ≤ 10 → n * 2 ^ (7 * (10 - r)) < 2 ^ 64 → (r < 10 → 0 < n) → At s i (cnt n) →
    rdC s r (7 * (10 - r)) acc i = some (acc + n * 2 ^ (7 * (10 - r)), i + (cnt n).length)
  | 0, _, _, _, h, _, _, _, _ => absurd h (by omega)
  | r + 1, n, acc, i, h1, h10, hn, hp, hA => by
    rw [rdC]
    rw [cnt] at hA ⊢
    by_cases h : n < 128
    · rw [dif_pos h] at hA ⊢
      obtain ⟨⟨hi, hb⟩, _⟩ := At.cons_iff.1 hA
      have hb' : byteAt s i = n := by omega
      rw [if_pos hi, hb', if_neg, if_pos h]
      · rfl
      · rintro (⟨a1, a2⟩ | ⟨a1, a2⟩)
        · rw [a1] at hn
          have : 2 * 2 ^ 63 ≤ n * 2 ^ 63 := Nat.mul_le_mul_right _ a2
          omega
        · have := hp (by omega)
          omega
    · rw [dif_neg h] at hA ⊢
      obtain ⟨⟨hi, hb⟩, hA⟩ := At.cons_iff.1 hA
      have hb' : byteAt s i = n % 128 + 128 := by omega
      have hr : 1 ≤ r := by
        apply Nat.pos_of_ne_zero
        rintro rfl
        have : 128 * 2 ^ 63 ≤ n * 2 ^ 63 := Nat.mul_le_mul_right _ (by omega)
        have e : 7 * (10 - (0 + 1)) = 63 := by decide
        rw [e] at hn
        omega
      rw [if_pos hi, hb', if_neg, if_neg (by omega)]
      · rw [show 7 * (10 - (r + 1)) + 7 = 7 * (10 - r) by omega]
        have e7 : 2 ^ (7 * (10 - r)) = 2 ^ (7 * (10 - (r + 1))) * 128 := by rw [show 7 * (10 - r) = 7 * (10 - (r + 1)) + 7 by omega, Nat.pow_add]
        have e8 : n / 128 * 2 ^ (7 * (10 - r)) + n % 128 * 2 ^ (7 * (10 - (r + 1))) = n * 2 ^ (7 * (10 - (r + 1))) := by
          rw [e7, show n / 128 * (2 ^ (7 * (10 - (r + 1))) * 128) = (n / 128 * 128) * 2 ^ (7 * (10 - (r + 1))) by rw [Nat.mul_comm (2 ^ _), Nat.mul_assoc], ← Nat.add_mul, show n / 128 * 128 + n % 128 = n by omega]
        rw [cntRd s r (n / 128) _ (i + 1) hr (by omega) (by omega) (fun _ => by omega) hA]
        rw [show (n % 128 + 128) % 128 = n % 128 by omega, List.length_cons]
        congr 2
        · omega
        · omega
      · rintro (⟨a1, a2⟩ | ⟨a1, a2⟩)
        · rw [a1] at hn
          have : 128 * 2 ^ 63 ≤ n * 2 ^ 63 := Nat.mul_le_mul_right _ (by omega)
          omega
        · omega
theorem cntRd0 (s : ByteArray) (n i : Nat) (hn : n < 2 ^ 64) (hA : At s i (cnt n)) : cntAt s i = some (n, i + (cnt n).length) := by
  have := cntRd s 10 n 0 i (by omega) (by omega) (by simpa using hn) (fun h => absurd h (by omega)) hA
  simpa [cntAt] using this
theorem rdCnt (s : ByteArray) : ∀ (r acc i m j : Nat), 1 ≤ r → r ≤ 10 → rdC s r (7 * (10 - r)) acc i = some (m, j) →
    ∃ n, m = acc + n * 2 ^ (7 * (10 - r)) ∧ n * 2 ^ (7 * (10 - r)) < 2 ^ 64 ∧ (r < 10 → 0 < n) ∧ At s i (cnt n) ∧ j = i + (cnt n).length
  | 0, _, _, _, _, h, _, _ => absurd h (by omega)
  | r + 1, acc, i, m, j, h1, h10, h => by
    rw [rdC] at h
    by_cases hi : i < s.size
    · rw [if_pos hi] at h
      have hb256 : byteAt s i < 256 := by rw [byteAt_get s i hi]; exact s[i].toNat_lt
      obtain ⟨b, hb⟩ : ∃ b, b = byteAt s i := ⟨_, rfl⟩
      rw [← hb] at h hb256
      by_cases hc : (7 * (10 - (r + 1)) = 63 ∧ 1 < b) ∨ (0 < 7 * (10 - (r + 1)) ∧ b = 0)
      · rw [if_pos hc] at h; cases h
      · rw [if_neg hc] at h
        have hsh : 7 * (10 - (r + 1)) ≤ 63 := by omega
        have hbig : ∀ n : Nat, n < 128 → (7 * (10 - (r + 1)) = 63 → n ≤ 1) → n * 2 ^ (7 * (10 - (r + 1))) < 2 ^ 64 := by
          intro n hn hn1
          rcases (by omega : 7 * (10 - (r + 1)) = 63 ∨ 7 * (10 - (r + 1)) ≤ 56) with e | e
          · rw [e]
            have := hn1 e
            calc n * 2 ^ 63 ≤ 1 * 2 ^ 63 := Nat.mul_le_mul_right _ this
              _ < 2 ^ 64 := by decide
          · calc n * 2 ^ (7 * (10 - (r + 1))) ≤ 127 * 2 ^ 56 := Nat.mul_le_mul (by omega) (Nat.pow_le_pow_right (by omega) e)
              _ < 2 ^ 64 := by decide
        by_cases h128 : b < 128
        · rw [if_pos h128] at h
          cases h
          refine ⟨b, rfl, hbig b h128 (fun e => by omega), fun hr => by omega, ?_, ?_⟩
          · rw [cnt, dif_pos h128]
            exact At.cons_iff.2 ⟨⟨hi, by omega⟩, At.nil _ _⟩
          · rw [cnt, dif_pos h128]; rfl
        · rw [if_neg h128] at h
          by_cases hr : r = 0
          · subst hr
            rw [rdC] at h
            cases h
          · rw [show 7 * (10 - (r + 1)) + 7 = 7 * (10 - r) by omega] at h
            obtain ⟨n, e1, e2, e3, e4, e5⟩ := rdCnt s r _ (i + 1) m j (by omega) (by omega) h
            have e7 : 2 ^ (7 * (10 - r)) = 2 ^ (7 * (10 - (r + 1))) * 128 := by rw [show 7 * (10 - r) = 7 * (10 - (r + 1)) + 7 by omega, Nat.pow_add]
            have hn0 : 0 < n := e3 (by omega)
            have e9 : b % 128 * 2 ^ (7 * (10 - (r + 1))) + n * 2 ^ (7 * (10 - r)) = (n * 128 + (b - 128)) * 2 ^ (7 * (10 - (r + 1))) := by
              rw [e7, show n * (2 ^ (7 * (10 - (r + 1))) * 128) = (n * 128) * 2 ^ (7 * (10 - (r + 1))) by rw [Nat.mul_comm (2 ^ _), Nat.mul_assoc], show b % 128 = b - 128 by omega, ← Nat.add_mul, Nat.add_comm (b - 128) (n * 128)]
            refine ⟨n * 128 + (b - 128), ?_, ?_, fun _ => by omega, ?_, ?_⟩
            · rw [e1, Nat.add_assoc, e9]
            · have p1 : (2 : Nat) ^ 64 = 2 ^ (64 - 7 * (10 - r)) * 2 ^ (7 * (10 - r)) := by
                rw [← Nat.pow_add]
                congr 1
                omega
              have hlt : n < 2 ^ (64 - 7 * (10 - r)) := by
                rw [p1] at e2
                exact Nat.lt_of_mul_lt_mul_right e2
              have p2 : (2 : Nat) ^ 64 = (2 ^ (64 - 7 * (10 - r)) * 128) * 2 ^ (7 * (10 - (r + 1))) := by
                rw [p1, e7, Nat.mul_comm (2 ^ (7 * (10 - (r + 1)))) 128, Nat.mul_assoc]
              refine Nat.lt_of_lt_of_eq ?_ p2.symm
              refine Nat.mul_lt_mul_of_pos_right ?_ (Nat.pow_pos (by omega))
              generalize 2 ^ (64 - 7 * (10 - r)) = P at hlt
              omega
            · rw [cnt, dif_neg (by omega), show (n * 128 + (b - 128)) / 128 = n by omega]
              exact At.cons_iff.2 ⟨⟨hi, by omega⟩, e4⟩
            · rw [cnt, dif_neg (by omega), show (n * 128 + (b - 128)) / 128 = n by omega, List.length_cons, e5]
              omega
    · rw [if_neg hi] at h; cases h
end Go.Proofs.YtcmphojichgfeaaDoor.QC
