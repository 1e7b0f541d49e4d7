/- The codec seat: the reader's bytes and counts, in plain Lean. -/
import Derived.Test.YtcmphojichgfeaaDoorCH5
namespace Go.Proofs.YtcmphojichgfeaaDoor.QC
open Go.RowKit Go.Proofs.YtcmphojichgfeaaDoorW.PrintWords Go.Proofs.YtcmphojichgfeaaDoorW.PrintLast Go.Proofs.YtcmphojichgfeaaDoorW.PrintMore
set_option linter.unusedVariables false
set_option linter.unusedSimpArgs false
theorem byte_at (s : ByteArray) (i : Nat) : bt s (i : Int) = ((byteAt s i : Nat) : Int) := by
  unfold bt byteAt
  rw [Int.toNat_natCast]
  by_cases h : i < s.size
  · have hl : i < s.data.toList.length := by rw [data_length]; exact h
    rw [dif_pos h, List.getD_eq_getElem?_getD, List.getElem?_eq_getElem hl, Option.getD_some]
    rfl
  · have hl : ¬ i < s.data.toList.length := by rw [data_length]; exact h
    rw [dif_neg h, List.getD_eq_getElem?_getD, List.getElem?_eq_none (by omega)]
    rfl
theorem byteAt_lt (s : ByteArray) (i : Nat) : byteAt s i < 256 := by
  unfold byteAt
  exact UInt8.toNat_lt _
theorem byteF (s : ByteArray) (i : Nat) (h : i < s.size) (hs : s.size ≤ 1000000) : codec_reader_byte.f s (i : Int) false = some (((byteAt s i : Nat) : Int), s, ((i + 1 : Nat) : Int), false) := by
  have w1 : wrap64 ((i : Int) + 1) = (i : Int) + 1 := by unfold wrap64; omega
  have w2 : wrap64 ((i : Int) + 1 - 1) = (i : Int) := by unfold wrap64; omega
  unfold codec_reader_byte.f
  simp only [Bool.false_eq_true, if_false]
  rw [if_neg (by omega), w1, w2, if_pos (by omega), if_pos (by omega), byte_at]
  rfl
theorem byteE (s : ByteArray) (i : Nat) (h : s.size ≤ i) : codec_reader_byte.f s (i : Int) false = some (0, s, (i : Int), true) := by
  unfold codec_reader_byte.f
  simp only [Bool.false_eq_true, if_false]
  rw [if_pos (by omega)]
theorem andB : ∀ b : Nat, b < 256 → Go.bits .and .u8 (b : Int) 127 = ((b % 128 : Nat) : Int) := by
  intro b hb
  have h : ∀ m : Fin 256, Go.bits .and .u8 ((m.val : Nat) : Int) 127 = ((m.val % 128 : Nat) : Int) := by decide +kernel
  exact h ⟨b, hb⟩
theorem addbits (n b sh : Nat) (hb : b < 128) (hs : sh ≤ 63) (hn : n < 2 ^ sh) (h63 : sh = 63 → b ≤ 1) (hsh : sh ≤ 56 ∨ sh = 63) : Go.bits .or .u64 (n : Int) (shl .u64 (IntKind.u64.wrap (b : Int)) (sh : Int)) = ((n + b * 2 ^ sh : Nat) : Int) := by
  have hp : b * 2 ^ sh < 2 ^ 64 := by
    rcases hsh with h | h
    · calc b * 2 ^ sh < 128 * 2 ^ sh := Nat.mul_lt_mul_of_pos_right hb (Nat.two_pow_pos _)
        _ ≤ 128 * 2 ^ 56 := Nat.mul_le_mul_left _ (Nat.pow_le_pow_right (by omega) h)
        _ ≤ 2 ^ 64 := by decide
    · have h1 := h63 h
      subst h
      exact Nat.lt_of_le_of_lt (Nat.mul_le_mul_right _ h1) (by decide)
  have hn2 : n < 2 ^ 64 := Nat.lt_of_lt_of_le hn (Nat.pow_le_pow_right (by omega) (by omega))
  have hp64 : (2 : Nat) ^ 64 = 18446744073709551616 := by decide
  have e1 : shl .u64 (IntKind.u64.wrap (b : Int)) (sh : Int) = ((b * 2 ^ sh : Nat) : Int) := by
    unfold shl
    rw [Int.toNat_natCast, show min sh IntKind.u64.bits = sh by simp only [IntKind.bits]; omega, wrap_u64 (n := (b : Int)) (by omega) (by omega)]
    rw [show ((b : Int) * 2 ^ sh) = ((b * 2 ^ sh : Nat) : Int) by rw [Int.natCast_mul, Int.natCast_pow]; rfl]
    exact wrap_u64 (by omega) (by omega)
  rw [e1, orN _ _ (by omega) (by omega)]
  congr 1
  rw [Nat.or_comm, ← Nat.shiftLeft_eq, ← Nat.shiftLeft_add_eq_or_of_lt hn, Nat.add_comm]
theorem beqd (b : Nat) : ((b : Int) == 0) = decide (b = 0) := by
  cases b <;> rfl
theorem condJ {α : Type} (J : Bool → α) (sh b : Nat) : (if (sh : Int) = 63 then (if (b : Int) > 1 then J true else (if (sh : Int) > 0 then J ((b : Int) == 0) else J false)) else (if (sh : Int) > 0 then J ((b : Int) == 0) else J false)) = J (decide ((sh = 63 ∧ 1 < b) ∨ (0 < sh ∧ b = 0))) := by
  rw [beqd b]
  have e1 : ((sh : Int) = 63) = (sh = 63) := by apply propext; omega
  have e2 : ((sh : Int) > 0) = (0 < sh) := by apply propext; omega
  have e3 : ((b : Int) > 1) = (1 < b) := by apply propext; omega
  simp only [e1, e2, e3]
  by_cases c1 : sh = 63
  · by_cases c2 : 1 < b
    · rw [if_pos c1, if_pos c2, decide_eq_true (Or.inl ⟨c1, c2⟩)]
    · rw [if_pos c1, if_neg c2, if_pos (by omega)]
      congr 1
      exact decide_eq_decide.mpr (by omega)
  · rw [if_neg c1]
    by_cases c2 : 0 < sh
    · rw [if_pos c2]
      congr 1
      exact decide_eq_decide.mpr (by omega)
    · rw [if_neg c2]
      congr 1
      exact (decide_eq_false (by omega)).symm
theorem cntR (s : ByteArray) (hs : s.size ≤ 1000000) : ∀ (r k n i : Nat), 1 ≤ r → r ≤ 10 → 2 * r ≤ k → n < 2 ^ (7 * (10 - r)) → i ≤ s.size →
    match rdC s r (7 * (10 - r)) n i with
    | some (m, j) => codec_reader_count.l0 k (n : Int) ((7 * (10 - r) : Nat) : Int) s (i : Int) false = some ((m : Int), s, (j : Int), false) ∧ j ≤ s.size ∧ i < j ∧ m < 2 ^ 64
    | none => ∃ j : Nat, codec_reader_count.l0 k (n : Int) ((7 * (10 - r) : Nat) : Int) s (i : Int) false = some (0, s, (j : Int), true) ∧ j ≤ s.size
  | r + 1, k + 2, n, i, _, hr, hk, hn, hi => by
    obtain ⟨sh, hsh⟩ : ∃ sh, sh = 7 * (10 - (r + 1)) := ⟨_, rfl⟩
    rw [← hsh] at hn ⊢
    have hsh2 : sh ≤ 56 ∨ sh = 63 := by omega
    rw [rdC, codec_reader_count.l0]
    by_cases h : i < s.size
    · rw [if_pos h, byteF s i h hs]
      have hb := byteAt_lt s i
      generalize byteAt s i = b at *
      simp only [Option.bind_some, Bool.false_eq_true, if_false]
      have hj : ∀ x29 : Bool, codec_reader_count.j1 (k + 1) (n : Int) (sh : Int) (b : Int) x29 s ((i + 1 : Nat) : Int) false = if x29 = true then some (0, s, ((i + 1 : Nat) : Int), true) else (if b < 128 then some (Go.bits .or .u64 (n : Int) (shl .u64 (IntKind.u64.wrap ((b % 128 : Nat) : Int)) (sh : Int)), s, ((i + 1 : Nat) : Int), false) else codec_reader_count.l0 k (Go.bits .or .u64 (n : Int) (shl .u64 (IntKind.u64.wrap ((b % 128 : Nat) : Int)) (sh : Int))) ((sh + 7 : Nat) : Int) s ((i + 1 : Nat) : Int) false) := by
        intro x29
        rw [codec_reader_count.j1, andB b hb]
        cases x29
        · have hw : wrap64 ((sh : Int) + 7) = ((sh + 7 : Nat) : Int) := by unfold wrap64; omega
          simp only [Bool.false_eq_true, if_false]
          rw [if_pos (by omega), hw]
          by_cases hb2 : b < 128
          · rw [if_pos (by omega), if_pos hb2]
          · rw [if_neg (by omega), if_neg hb2]
        · simp only [if_true]
      have hcond : (if (sh : Int) = 63 then (if (b : Int) > 1 then codec_reader_count.j1 (k + 1) (n : Int) (sh : Int) (b : Int) true s ((i + 1 : Nat) : Int) false else (if (sh : Int) > 0 then codec_reader_count.j1 (k + 1) (n : Int) (sh : Int) (b : Int) ((b : Int) == 0) s ((i + 1 : Nat) : Int) false else codec_reader_count.j1 (k + 1) (n : Int) (sh : Int) (b : Int) false s ((i + 1 : Nat) : Int) false)) else (if (sh : Int) > 0 then codec_reader_count.j1 (k + 1) (n : Int) (sh : Int) (b : Int) ((b : Int) == 0) s ((i + 1 : Nat) : Int) false else codec_reader_count.j1 (k + 1) (n : Int) (sh : Int) (b : Int) false s ((i + 1 : Nat) : Int) false)) = codec_reader_count.j1 (k + 1) (n : Int) (sh : Int) (b : Int) (decide ((sh = 63 ∧ 1 < b) ∨ (0 < sh ∧ b = 0))) s ((i + 1 : Nat) : Int) false := condJ (fun x => codec_reader_count.j1 (k + 1) (n : Int) (sh : Int) (b : Int) x s ((i + 1 : Nat) : Int) false) sh b
      rw [hcond, hj]
      by_cases he : (sh = 63 ∧ 1 < b) ∨ (0 < sh ∧ b = 0)
      · rw [if_pos he, decide_eq_true he, if_pos rfl]
        exact ⟨i + 1, rfl, by omega⟩
      · rw [if_neg he, decide_eq_false he]
        simp only [Bool.false_eq_true, if_false]
        have hadd := addbits n (b % 128) sh (Nat.mod_lt _ (by decide)) (by omega) hn (fun h => by omega) hsh2
        rw [hadd]
        by_cases hb2 : b < 128
        · rw [if_pos hb2, if_pos hb2, show b % 128 = b by omega]
          refine ⟨rfl, by omega, by omega, ?_⟩
          have h2 : b * 2 ^ sh + 2 ^ sh ≤ 2 ^ 64 := by
            rcases hsh2 with h5 | h5
            · calc b * 2 ^ sh + 2 ^ sh = (b + 1) * 2 ^ sh := by rw [Nat.add_mul, Nat.one_mul]
                _ ≤ 128 * 2 ^ 56 := Nat.mul_le_mul (by omega) (Nat.pow_le_pow_right (by omega) h5)
                _ ≤ 2 ^ 64 := by decide
            · subst h5
              calc b * 2 ^ 63 + 2 ^ 63 = (b + 1) * 2 ^ 63 := by rw [Nat.add_mul, Nat.one_mul]
                _ ≤ 2 * 2 ^ 63 := Nat.mul_le_mul_right _ (by omega)
                _ ≤ 2 ^ 64 := by decide
          omega
        · rw [if_neg hb2, if_neg hb2]
          have hr1 : 1 ≤ r := by omega
          have e7 : sh + 7 = 7 * (10 - r) := by omega
          have hn2 : n + b % 128 * 2 ^ sh < 2 ^ (7 * (10 - r)) := by
            rw [← e7, Nat.pow_add]
            have : b % 128 * 2 ^ sh + 2 ^ sh ≤ 128 * 2 ^ sh := by
              rw [show b % 128 * 2 ^ sh + 2 ^ sh = (b % 128 + 1) * 2 ^ sh by rw [Nat.add_mul, Nat.one_mul]]
              exact Nat.mul_le_mul_right _ (by omega)
            rw [Nat.mul_comm (2 ^ sh)]
            have h128 : (2 : Nat) ^ 7 = 128 := by decide
            rw [h128]
            omega
          have ih := cntR s hs r k (n + b % 128 * 2 ^ sh) (i + 1) hr1 (by omega) (by omega) hn2 (by omega)
          rw [e7]
          generalize hrd : rdC s r (7 * (10 - r)) (n + b % 128 * 2 ^ sh) (i + 1) = o at ih ⊢
          cases o with
          | none => exact ih
          | some p =>
            obtain ⟨m, j⟩ := p
            obtain ⟨q1, q2, q3, q4⟩ := ih
            exact ⟨q1, q2, by omega, q4⟩
    · rw [if_neg h, byteE s i (by omega)]
      simp only [Option.bind_some, if_true]
      rw [codec_reader_count.j1, if_pos rfl]
      exact ⟨i, rfl, hi⟩
/-- A count, as the reader reads it. -/
theorem cntP (s : ByteArray) (hs : s.size ≤ 1000000) (i : Nat) (hi : i ≤ s.size) :
    match cntAt s i with
    | some (m, j) => codec_reader_count.f 20 s (i : Int) false = some ((m : Int), s, (j : Int), false) ∧ j ≤ s.size ∧ i < j ∧ m < 2 ^ 64
    | none => ∃ j : Nat, codec_reader_count.f 20 s (i : Int) false = some (0, s, (j : Int), true) ∧ j ≤ s.size :=
  cntR s hs 10 20 0 i (by omega) (by omega) (by omega) (by decide) hi
end Go.Proofs.YtcmphojichgfeaaDoor.QC
