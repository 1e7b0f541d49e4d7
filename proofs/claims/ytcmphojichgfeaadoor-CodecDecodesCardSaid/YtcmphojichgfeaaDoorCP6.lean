/- The codec seat: plain law: values written and read. -/
import Derived.Test.YtcmphojichgfeaaDoorCP5
namespace Go.Proofs.YtcmphojichgfeaaDoor.QC
open Go.RowKit Go.Proofs.YtcmphojichgfeaaDoorW.PrintWords Go.Proofs.YtcmphojichgfeaaDoorW.PrintLast Go.Proofs.YtcmphojichgfeaaDoorW.PrintMore
set_option linter.unusedVariables false
set_option linter.unusedSimpArgs false
theorem bvu (x : Nat) (h : x ≤ 18446744073709551615) : (BitVec.ofInt IntKind.u64.bits (x : Int)).toNat = x := by
  rw [BitVec.toNat_ofInt]
  simp only [IntKind.bits]
  omega
theorem xor0u (x : Nat) (h : x ≤ 18446744073709551615) : Go.bits .xor .u64 (x : Int) 0 = (x : Int) := by
  unfold Go.bits
  simp only []
  rw [show (0 : Int) = ((0 : Nat) : Int) by omega, BitVec.toNat_xor, bvu x h, bvu 0 (by omega), Nat.xor_zero]
  exact wrap_u64 (by omega) (by omega)
theorem xorMu (x : Nat) (h : x ≤ 18446744073709551615) : Go.bits .xor .u64 (x : Int) 18446744073709551615 = ((18446744073709551615 - x : Nat) : Int) := by
  unfold Go.bits
  simp only []
  have e : BitVec.ofInt IntKind.u64.bits 18446744073709551615 = BitVec.allOnes IntKind.u64.bits := by decide
  rw [e, BitVec.xor_allOnes, BitVec.toNat_not, bvu x h]
  simp only [IntKind.bits]
  rw [show (2 : Nat) ^ 64 - 1 - x = 18446744073709551615 - x by rw [show (2 : Nat) ^ 64 = 18446744073709551616 by decide]]
  exact wrap_u64 (by omega) (by omega)
theorem zigP {b : Int} (h0 : 0 ≤ b) (h1 : b ≤ 9223372036854775807) : zig b = (2 * b).toNat := by
  unfold zig zigI
  have e1 : IntKind.u64.wrap b = b := wrap_u64 (by omega) (by omega)
  have e2 : IntKind.u64.wrap (b * 2) = (((2 * b).toNat : Nat) : Int) := by rw [wrap_u64 (by omega) (by omega)]; omega
  have e3 : b / 9223372036854775808 = 0 := by omega
  rw [e1, e2, e3, show IntKind.u64.wrap 0 = 0 by decide, xor0u _ (by omega)]
  omega
theorem zigM {b : Int} (h0 : b < 0) (h1 : -9223372036854775808 ≤ b) : zig b = (-2 * b - 1).toNat := by
  unfold zig zigI
  have hw : ∀ n : Int, IntKind.u64.wrap n = n % 18446744073709551616 := by
    intro n
    simp only [IntKind.wrap, IntKind.signed, IntKind.bits, Bool.false_and, Bool.false_eq_true, if_false]
    omega
  have e1 : IntKind.u64.wrap b = b + 18446744073709551616 := by rw [hw]; omega
  have e2 : IntKind.u64.wrap ((b + 18446744073709551616) * 2) = (((2 * b + 18446744073709551616).toNat : Nat) : Int) := by rw [hw]; omega
  have e3 : b / 9223372036854775808 = -1 := by omega
  rw [e1, e2, e3, show IntKind.u64.wrap (-1) = 18446744073709551615 by decide, xorMu _ (by omega)]
  omega
def rng (b : Int) : Prop := -9223372036854775808 ≤ b ∧ b ≤ 9223372036854775807
theorem unz_zig {b : Int} (h : rng b) : unz (zig b) = b := by
  obtain ⟨h1, h2⟩ := h
  unfold unz
  by_cases h0 : 0 ≤ b
  · rw [zigP h0 h2]
    split <;> omega
  · rw [zigM (by omega) h1]
    split <;> omega
theorem unz_rng {n : Nat} (h : n < 2 ^ 64) : rng (unz n) := by
  unfold unz rng
  split <;> omega
theorem zig_unz {n : Nat} (h : n < 2 ^ 64) : zig (unz n) = n := by
  unfold unz
  by_cases h2 : n % 2 = 0
  · rw [if_pos h2, zigP (by omega) (by omega)]
    omega
  · rw [if_neg h2, zigM (by omega) (by omega)]
    omega
mutual
def rngV : S32 → Prop
  | ⟨_, b, c, l⟩ => rng b ∧ c.size ≤ 9223372036854775807 ∧ l.length ≤ 9223372036854775807 ∧ rngL l
def rngL : List S32 → Prop
  | [] => True
  | x :: l => rngV x ∧ rngL l
end
theorem nilT : (⟨#[]⟩ : ByteArray).toList = [] := by rw [ByteArray.toList_eq]
theorem ba_nil {c : ByteArray} (h : c.toList = []) : c = ⟨#[]⟩ := by
  rw [ByteArray.toList_eq] at h
  apply ByteArray.ext
  exact Array.toList_inj.1 (by simpa using h)
theorem posV_one {b : Int} {c : ByteArray} {l : List S32} (h : posV ⟨1, b, c, l⟩ = true) : c = ⟨#[]⟩ ∧ l = [] := by
  rw [posV, if_pos rfl] at h
  simp only [Bool.and_eq_true, decide_eq_true_eq] at h
  exact ⟨ba_nil h.1, List.eq_nil_of_length_eq_zero h.2⟩
theorem posV_two {b : Int} {c : ByteArray} {l : List S32} (h : posV ⟨2, b, c, l⟩ = true) : b = 0 ∧ l = [] := by
  rw [posV, if_neg (by decide), if_pos rfl] at h
  simp only [Bool.and_eq_true, decide_eq_true_eq] at h
  exact ⟨h.1, List.eq_nil_of_length_eq_zero h.2⟩
theorem posV_three {a b : Int} {c : ByteArray} {l : List S32} (h : posV ⟨a, b, c, l⟩ = true) (h1 : a ≠ 1) (h2 : a ≠ 2) : a = 3 ∧ b = 0 ∧ c = ⟨#[]⟩ ∧ posL l = true := by
  rw [posV, if_neg h1, if_neg h2] at h
  by_cases h3 : a = 3
  · rw [if_pos h3] at h
    simp only [Bool.and_eq_true, decide_eq_true_eq] at h
    exact ⟨h3, h.1, ba_nil h.2.1, h.2.2⟩
  · rw [if_neg h3] at h; cases h
theorem ints_len' (c : ByteArray) : (ints c).length = c.size := by simp [ints]
theorem ext_of_at {s c : ByteArray} {i : Nat} (h : At s i (ints c)) : s.extract i (i + c.size) = c := by
  apply ByteArray.ext
  apply Array.toList_inj.1
  rw [ByteArray.data_extract, Array.toList_extract, List.extract_eq_take_drop, show i + c.size - i = c.size by omega]
  apply List.ext_getElem?
  intro j
  by_cases hj : j < c.size
  · obtain ⟨h1, h2⟩ := h j (by rw [ints_len']; exact hj)
    rw [List.getElem?_take_of_lt hj, List.getElem?_drop, List.getElem?_eq_getElem (by simpa using h1), List.getElem?_eq_getElem (by simpa using hj)]
    rw [byteAt_get s (i + j) h1] at h2
    have e : (ints c)[j]'(by rw [ints_len']; exact hj) = ((c[j].toNat : Nat) : Int) := by simp [ints]; rfl
    rw [e] at h2
    have h3 : s[i + j].toNat = c[j].toNat := by omega
    exact congrArg some (UInt8.toNat_inj.1 h3)
  · rw [List.getElem?_eq_none (by simp; omega), List.getElem?_eq_none (by simp; exact Nat.le_of_not_lt hj)]
theorem at_ext {s : ByteArray} {i n : Nat} (h : i + n ≤ s.size) : At s i (ints (s.extract i (i + n))) := by
  intro j hj
  rw [ints_len', ByteArray.size_extract] at hj
  have hjn : j < n := by omega
  refine ⟨by omega, ?_⟩
  rw [byteAt_get s (i + j) (by omega)]
  simp only [ints, List.getElem_map]
  congr 2
  simp only [ByteArray.data_extract, Array.toList_extract, List.extract_eq_take_drop, List.getElem_take, List.getElem_drop]
  rfl
theorem rdL_At (s : ByteArray) (f : Nat → Option (S32 × Nat)) : ∀ (l : List S32) (i : Nat), (∀ x ∈ l, ∀ i, At s i (encV x) → f i = some (x, i + (encV x).length)) → At s i (encL l) → rdL f l.length i = some (l, i + (encL l).length)
  | [], i, _, _ => rfl
  | x :: l, i, h, hA => by
    rw [encL, At.append_iff] at hA
    have h1 := h x (List.mem_cons_self ..) i hA.1
    have h2 := rdL_At s f l _ (fun y hy => h y (List.mem_cons_of_mem _ hy)) hA.2
    rw [List.length_cons, rdL, h1, Option.bind_some, h2, Option.bind_some, encL, List.length_append]
    congr 2
    omega
theorem posL_mem : ∀ {l : List S32}, posL l = true → ∀ x ∈ l, posV x = true
  | y :: l, h, x, hx => by
    rw [posL, Bool.and_eq_true] at h
    rcases List.mem_cons.1 hx with rfl | hx
    · exact h.1
    · exact posL_mem h.2 x hx
theorem rngL_mem : ∀ {l : List S32}, rngL l → ∀ x ∈ l, rngV x
  | y :: l, h, x, hx => by
    rw [rngL] at h
    rcases List.mem_cons.1 hx with rfl | hx
    · exact h.1
    · exact rngL_mem h.2 x hx
theorem depL_mem : ∀ {l : List S32}, ∀ x ∈ l, dep x ≤ depL l
  | y :: l, x, hx => by
    rw [depL]
    rcases List.mem_cons.1 hx with rfl | hx
    · omega
    · have := depL_mem x hx; omega
/-- What is written is read. -/
theorem valRd (s : ByteArray) : ∀ (N : Nat) (x : S32), SizeOf.sizeOf x ≤ N → posV x = true → rngV x → ∀ d i, dep x ≤ d → At s i (encV x) → rdV s (d + 1) i = some (x, i + (encV x).length)
  | 0, x, h, _, _, _, _, _, _ => absurd h (by cases x; simp only [S32.mk.sizeOf_spec]; omega)
  | N + 1, ⟨a, b, c, l⟩, h, hp, hr, d, i, hd, hA => by
    rw [rngV] at hr
    obtain ⟨hb, hc63, hl63, hrl⟩ := hr
    rw [encV] at hA ⊢
    rw [rdV]
    by_cases h1 : a = 1
    · subst h1
      obtain ⟨rfl, rfl⟩ := posV_one hp
      simp only [if_true] at hA ⊢
      obtain ⟨⟨hi, hby⟩, hA⟩ := At.cons_iff.1 hA
      rw [if_pos hi, if_pos (by omega), cntRd0 s (zig b) (i + 1) (zig_lt b) hA, Option.bind_some, unz_zig hb, List.length_cons]
      congr 2
      omega
    · simp only [if_neg h1] at hA ⊢
      by_cases h2 : a = 2
      · subst h2
        obtain ⟨rfl, rfl⟩ := posV_two hp
        simp only [if_true] at hA ⊢
        obtain ⟨⟨hi, hby⟩, hA⟩ := At.cons_iff.1 hA
        rw [At.append_iff] at hA
        have hfit : c.size ≤ s.size - (i + 1 + (cnt c.size).length) := by
          by_cases h0 : c.size = 0
          · omega
          · have := At.end_ hA.2 (by rw [ints_len']; omega)
            rw [ints_len'] at this
            omega
        rw [if_pos hi, if_neg (by omega), if_pos (by omega), cntRd0 s c.size (i + 1) (by omega) hA.1, Option.bind_some, if_pos hfit, ext_of_at hA.2]
        simp only [List.length_cons, List.length_append, ints_len']
        congr 2
        omega
      · obtain ⟨rfl, rfl, rfl, hpl⟩ := posV_three hp h1 h2
        simp only [if_neg h2] at hA ⊢
        obtain ⟨⟨hi, hby⟩, hA⟩ := At.cons_iff.1 hA
        rw [At.append_iff] at hA
        rw [dep, if_neg h1, if_neg h2] at hd
        obtain ⟨d, rfl⟩ : ∃ e, d = e + 1 := ⟨d - 1, by omega⟩
        have hll := encL_len l
        have hfit : l.length ≤ s.size - (i + 1 + (cnt l.length).length) := by
          by_cases h0 : (encL l).length = 0
          · omega
          · have := At.end_ hA.2 (by omega)
            omega
        have hL := rdL_At s (rdV s (d + 1)) l _ (fun x hx i hx2 => valRd s N x (by have := size_mem32 hx 3 0 (⟨#[]⟩ : ByteArray); omega) (posL_mem hpl x hx) (rngL_mem hrl x hx) d i (by have := depL_mem x hx; omega) hx2) hA.2
        rw [if_pos hi, if_neg (by omega), if_neg (by omega), if_pos (by omega), cntRd0 s l.length (i + 1) (by omega) hA.1, Option.bind_some, if_neg (by omega), if_pos hfit, hL, Option.bind_some]
        simp only [List.length_cons, List.length_append]
        congr 2
        omega
/-- What is read was written. -/
theorem rdVal (s : ByteArray) (hs : s.size ≤ 1000000) : ∀ (d i : Nat) (x : S32) (j : Nat), rdV s (d + 1) i = some (x, j) → posV x = true ∧ dep x ≤ d ∧ rngV x ∧ At s i (encV x) ∧ j = i + (encV x).length := by
  intro d
  induction d using Nat.strongRecOn with
  | _ d ih =>
    intro i x j h
    have hL : ∀ (e : Nat), e < d → ∀ (n i : Nat) (l : List S32) (j : Nat), rdL (rdV s (e + 1)) n i = some (l, j) → l.length = n ∧ posL l = true ∧ depL l ≤ e ∧ rngL l ∧ At s i (encL l) ∧ j = i + (encL l).length := by
      intro e he n
      induction n with
      | zero =>
        intro i l j h
        rw [rdL] at h
        cases h
        exact ⟨rfl, rfl, by rw [depL]; omega, trivial, At.nil _ _, rfl⟩
      | succ n ihn =>
        intro i l j h
        rw [rdL, Option.bind_eq_some_iff] at h
        obtain ⟨⟨x, i'⟩, hx, h⟩ := h
        dsimp only at h
        rw [Option.bind_eq_some_iff] at h
        obtain ⟨⟨l', j'⟩, hl, h⟩ := h
        simp only [Option.some.injEq, Prod.mk.injEq] at h
        obtain ⟨rfl, rfl⟩ := h
        obtain ⟨p1, p2, p3, p4, p5⟩ := ih e he i x i' hx
        obtain ⟨q0, q1, q2, q3, q4, q5⟩ := ihn i' l' j' hl
        refine ⟨by rw [List.length_cons, q0], by rw [posL, p1, q1]; rfl, by rw [depL]; omega, ?_, ?_, ?_⟩
        · rw [rngL]; exact ⟨p3, q3⟩
        · rw [encL, At.append_iff, ← p5]; exact ⟨p4, q4⟩
        · rw [encL, List.length_append]; omega
    rw [rdV] at h
    by_cases hi : i < s.size
    · rw [if_pos hi] at h
      by_cases h1 : byteAt s i = 110
      · rw [if_pos h1, Option.bind_eq_some_iff] at h
        obtain ⟨⟨m, j'⟩, hc, h⟩ := h
        simp only [Option.some.injEq, Prod.mk.injEq] at h
        obtain ⟨rfl, rfl⟩ := h
        obtain ⟨n, e1, e2, _, e4, e5⟩ := rdCnt s 10 0 (i + 1) m j' (by omega) (by omega) hc
        simp only [Nat.sub_self, Nat.mul_zero, Nat.pow_zero, Nat.mul_one, Nat.zero_add] at e1 e2
        subst e1
        refine ⟨by rw [posV, if_pos rfl, nilT]; rfl, by rw [dep, if_pos rfl]; omega, ?_, ?_, ?_⟩
        · rw [rngV]; exact ⟨unz_rng e2, by decide, by simp, trivial⟩
        · rw [encV, if_pos rfl, zig_unz e2]; exact At.cons_iff.2 ⟨⟨hi, by omega⟩, e4⟩
        · rw [encV, if_pos rfl, zig_unz e2, List.length_cons]; omega
      · rw [if_neg h1] at h
        by_cases h2 : byteAt s i = 116
        · rw [if_pos h2, Option.bind_eq_some_iff] at h
          obtain ⟨⟨m, j'⟩, hc, h⟩ := h
          obtain ⟨n, e1, e2, _, e4, e5⟩ := rdCnt s 10 0 (i + 1) m j' (by omega) (by omega) hc
          simp only [Nat.sub_self, Nat.mul_zero, Nat.pow_zero, Nat.mul_one, Nat.zero_add] at e1 e2
          subst e1
          by_cases hm : m ≤ s.size - j'
          · simp only [if_pos hm] at h
            cases h
            have hje : i + 1 + (cnt m).length ≤ s.size := At.end_ e4 (cnt_pos m)
            have hsz : (s.extract j' (j' + m)).size = m := by rw [ByteArray.size_extract]; omega
            refine ⟨by rw [posV, if_neg (by decide), if_pos rfl]; decide, by rw [dep, if_neg (by decide), if_pos rfl]; omega, ?_, ?_, ?_⟩
            · rw [rngV]; exact ⟨by unfold rng; omega, by rw [hsz]; omega, by simp, trivial⟩
            · rw [encV, if_neg (by decide), if_pos rfl, hsz]
              refine At.cons_iff.2 ⟨⟨hi, by omega⟩, At.append_iff.2 ⟨e4, ?_⟩⟩
              rw [← e5]
              exact at_ext (by omega)
            · rw [encV, if_neg (by decide), if_pos rfl, hsz, List.length_cons, List.length_append, ints_len', hsz]; omega
          · simp only [if_neg hm] at h; cases h
        · rw [if_neg h2] at h
          by_cases h3 : byteAt s i = 108
          · rw [if_pos h3, Option.bind_eq_some_iff] at h
            obtain ⟨⟨m, j'⟩, hc, h⟩ := h
            obtain ⟨n, e1, e2, _, e4, e5⟩ := rdCnt s 10 0 (i + 1) m j' (by omega) (by omega) hc
            simp only [Nat.sub_self, Nat.mul_zero, Nat.pow_zero, Nat.mul_one, Nat.zero_add] at e1 e2
            subst e1
            by_cases hd : d = 0
            · simp only [if_pos hd] at h; cases h
            · simp only [if_neg hd] at h
              by_cases hm : m ≤ s.size - j'
              · simp only [if_pos hm] at h
                rw [Option.bind_eq_some_iff] at h
                obtain ⟨⟨l, j2⟩, hl, h⟩ := h
                simp only [Option.some.injEq, Prod.mk.injEq] at h
                obtain ⟨rfl, rfl⟩ := h
                obtain ⟨d', rfl⟩ : ∃ e, d = e + 1 := ⟨d - 1, by omega⟩
                obtain ⟨q0, q1, q2, q3, q4, q5⟩ := hL d' (by omega) m j' l j2 hl
                refine ⟨?_, by rw [dep, if_neg (by decide), if_neg (by decide)]; omega, ?_, ?_, ?_⟩
                · rw [posV, if_neg (by decide), if_neg (by decide), if_pos rfl, q1, nilT]; rfl
                · rw [rngV]; exact ⟨by unfold rng; omega, by decide, by omega, q3⟩
                · rw [encV, if_neg (by decide), if_neg (by decide), q0]
                  refine At.cons_iff.2 ⟨⟨hi, by omega⟩, At.append_iff.2 ⟨e4, ?_⟩⟩
                  rw [← e5]
                  exact q4
                · rw [encV, if_neg (by decide), if_neg (by decide), q0, List.length_cons, List.length_append]; omega
              · simp only [if_neg hm] at h; cases h
          · rw [if_neg h3] at h; cases h
    · rw [if_neg hi] at h; cases h
end Go.Proofs.YtcmphojichgfeaaDoor.QC
