/- The codec seat: plain law: the reference's reading is the program's. -/
import Derived.Test.YtcmphojichgfeaaDoorCP7
import Derived.Test.YtcmphojichgfeaaDoorCP2
import Derived.Test.YtcmphojichgfeaaDoorCR4
namespace Go.Proofs.YtcmphojichgfeaaDoor.QC
open Go.RowKit Go.Proofs.YtcmphojichgfeaaDoorW.PrintWords Go.Proofs.YtcmphojichgfeaaDoorW.PrintLast Go.Proofs.YtcmphojichgfeaaDoorW.PrintMore
set_option linter.unusedVariables false
set_option linter.unusedSimpArgs false
theorem bt_byteAt (s : ByteArray) (i : Nat) (h : i < s.size) : bt s (i : Int) = (byteAt s i : Int) := by
  rw [byteAt_get s i h, ← bt_at s (i : Int) (by simpa using h)]
  rfl
theorem digE (n b i : Nat) (hn : n < 2 ^ (7 * i)) (hi : i ≤ 9) (hb : b < 256) (h63 : ¬ (7 * i = 63 ∧ 1 < b)) :
    IntKind.u64.wrap ((n : Int) + shl .u64 (Int.tmod (b : Int) 128) ((7 * i : Nat) : Int)) = ((n + b % 128 * 2 ^ (7 * i) : Nat) : Int) ∧ (i ≤ 8 → n + b % 128 * 2 ^ (7 * i) < 2 ^ (7 * (i + 1))) := by
  have h7 : i ≤ 8 → n + (b % 128) * 2 ^ (7 * i) < 2 ^ (7 * (i + 1)) := by
    intro hi8
    rw [show 7 * (i + 1) = 7 * i + 7 by omega, Nat.pow_add, show (2 : Nat) ^ 7 = 128 by decide, Nat.mul_comm (2 ^ (7 * i)) 128]
    have : (b % 128 + 1) * 2 ^ (7 * i) ≤ 128 * 2 ^ (7 * i) := Nat.mul_le_mul_right _ (by omega)
    rw [Nat.add_mul, Nat.one_mul] at this
    omega
  have hfit : n + (b % 128) * 2 ^ (7 * i) < 18446744073709551616 := by
    rcases (by omega : i ≤ 8 ∨ i = 9) with h8 | h9
    · have h1 := h7 h8
      have h2 : 2 ^ (7 * (i + 1)) ≤ 2 ^ 63 := Nat.pow_le_pow_right (by omega) (by omega)
      have h3 : (2 : Nat) ^ 63 = 9223372036854775808 := by decide
      omega
    · subst h9
      have h1 : b % 128 * 2 ^ (7 * 9) ≤ 1 * 2 ^ (7 * 9) := Nat.mul_le_mul_right _ (by omega)
      have h3 : (2 : Nat) ^ (7 * 9) = 9223372036854775808 := by decide
      rw [h3] at hn h1 ⊢
      omega
  refine ⟨?_, h7⟩
  have et : Int.tmod (b : Int) 128 = ((b % 128 : Nat) : Int) := by
    rw [Int.tmod_eq_emod_of_nonneg (by omega)]
    omega
  obtain ⟨c, hc⟩ : ∃ c, c = b % 128 * 2 ^ (7 * i) := ⟨_, rfl⟩
  rw [← hc] at hfit ⊢
  have es : shl .u64 ((b % 128 : Nat) : Int) ((7 * i : Nat) : Int) = (c : Int) := by
    unfold shl
    rw [Int.toNat_natCast, Nat.min_eq_left (by simp only [IntKind.bits]; omega)]
    rw [show (((b % 128 : Nat) : Int) * 2 ^ (7 * i)) = (c : Int) by rw [hc, Int.natCast_mul, Int.natCast_pow]; rfl]
    exact wrap_u64 (by omega) (by omega)
  rw [et, es, ← Int.natCast_add]
  exact wrap_u64 (by omega) (by omega)
theorem refCnt (s : ByteArray) (hs : s.size ≤ 1000000) (at_ : Nat) (ha : at_ ≤ s.size) : ∀ (r i n : Nat), i + r = 10 → n < 2 ^ (7 * i) → at_ + i ≤ s.size →
    match rdC s r (7 * i) n (at_ + i) with
    | some (m, j) => Ev (fun k => gangsawref02_count.l0 k s (at_ : Int) (n : Int) (i : Int)) ((m : Int), (j : Int), true)
    | none => ∃ u v : Int, Ev (fun k => gangsawref02_count.l0 k s (at_ : Int) (n : Int) (i : Int)) (u, v, false)
  | 0, i, n, hi, hn, hsz => by
    clear hn
    rw [rdC]
    refine ⟨0, 0, Ev.succ' ?_⟩
    simp only [gangsawref02_count.l0, if_neg (show ¬ (i : Int) < 10 by omega)]
    exact Ev.some
  | r + 1, i, n, hi, hn, hsz => by
    have e0 : wrap64 ((at_ : Int) + (i : Int)) = ((at_ + i : Nat) : Int) := by clear hn; unfold wrap64; omega
    have E0 := Aside0.mk e0
    clear e0
    rw [rdC]
    by_cases hlt : at_ + i < s.size
    · rw [if_pos hlt]
      have hb := bt_byteAt s (at_ + i) hlt
      have hb256 := byteAt_lt s (at_ + i)
      obtain ⟨b, hbe⟩ : ∃ b, b = byteAt s (at_ + i) := ⟨_, rfl⟩
      rw [← hbe] at hb hb256 ⊢
      have ew : IntKind.u64.wrap (b : Int) = (b : Int) := by clear hn; exact wrap_u64 (by omega) (by omega)
      have e7 : wrap64 (7 * (i : Int)) = ((7 * i : Nat) : Int) := by clear hn; unfold wrap64; omega
      have EW := Aside0.mk ew
      have E7 := Aside0.mk e7
      have HB := Aside0.mk hb
      clear ew e7 hb
      have hD := Aside0.mk (digE n b i hn (by clear hn; omega) hb256)
      clear hn
      have hstep : ∀ (f : Bool) (Q : Int × Int × Bool), (f = true → 7 * i = 63 ∧ 1 < b) → (f = false → ¬ (7 * i = 63 ∧ 1 < b)) →
          Ev (fun k => gangsawref02_count.j1 k s (at_ : Int) (n : Int) (i : Int) (b : Int) f) Q → Ev (fun k => gangsawref02_count.l0 k s (at_ : Int) (n : Int) (i : Int)) Q := by
        intro f Q hf1 hf2 hQ
        refine Ev.succ (fun k => ?_) hQ
        show gangsawref02_count.l0 (k + 1) s (at_ : Int) (n : Int) (i : Int) = _
        rw [gangsawref02_count.l0, if_pos (by omega), E0.out, if_neg (by omega), if_pos (by omega), if_pos (by omega), HB.out, EW.out]
        by_cases h9 : (i : Int) = 9
        · rw [if_pos h9]
          congr 1
          cases f with
          | true => have := (hf1 rfl).2; exact decide_eq_true (by omega)
          | false => have := hf2 rfl; exact decide_eq_false (by omega)
        · rw [if_neg h9]
          congr 1
          cases f with
          | true => have := (hf1 rfl).1; omega
          | false => rfl
      by_cases h63 : 7 * i = 63 ∧ 1 < b
      · rw [if_pos (.inl h63)]
        refine ⟨0, 0, hstep true _ (fun _ => h63) (fun h => Bool.noConfusion h) (Ev.succ' ?_)⟩
        simp only [gangsawref02_count.j1, if_true]
        exact Ev.some
      · have EN0 := Aside0.mk (hD.out h63)
        clear hD
        obtain ⟨n', hn'⟩ : ∃ n', n' = n + b % 128 * 2 ^ (7 * i) := ⟨_, rfl⟩
        have EN : Aside0 (IntKind.u64.wrap ((n : Int) + shl .u64 (Int.tmod (b : Int) 128) ((7 * i : Nat) : Int)) = (n' : Int)) := ⟨by rw [hn']; exact EN0.out.1⟩
        have HNX : Aside0 (i ≤ 8 → n' < 2 ^ (7 * (i + 1))) := ⟨by rw [hn']; exact EN0.out.2⟩
        clear EN0
        rw [← hn']
        have HN' := Aside0.mk hn'
        clear hn'
        have e1 : wrap64 (((at_ + i : Nat) : Int) + 1) = ((at_ + i + 1 : Nat) : Int) := w64s _ (by omega)
        have E1 := Aside0.mk e1
        clear e1
        have e1' : wrap64 ((i : Int) + 1) = ((i + 1 : Nat) : Int) := w64s _ (by omega)
        have E1' := Aside0.mk e1'
        clear e1'
        have hjump : ∀ Q : Int × Int × Bool, (b < 128 → (0 = 7 * i → Q = ((n' : Int), ((at_ + i + 1 : Nat) : Int), true)) ∧ (0 < 7 * i → Q = ((n' : Int), ((at_ + i + 1 : Nat) : Int), decide (0 < b)))) →
            (¬ b < 128 → Ev (fun k => gangsawref02_count.l0 k s (at_ : Int) (n' : Int) ((i + 1 : Nat) : Int)) Q) → Ev (fun k => gangsawref02_count.l0 k s (at_ : Int) (n : Int) (i : Int)) Q := by
          intro Q hQ1 hQ2
          refine hstep false Q (fun h => Bool.noConfusion h) (fun _ => h63) ?_
          clear hstep HNX HN' HB hbe
          by_cases h128 : b < 128
          · refine Ev.succ (g := fun _ => some Q) (fun k => ?_) Ev.some
            show gangsawref02_count.j1 (k + 1) s (at_ : Int) (n : Int) (i : Int) (b : Int) false = some Q
            rw [gangsawref02_count.j1, if_neg (by simp), E7.out, if_pos (by omega), if_pos (by omega), EN.out, E0.out, E1.out]
            by_cases hi0 : (i : Int) = 0
            · rw [if_pos hi0, (hQ1 h128).1 (by omega)]
            · rw [if_neg hi0, (hQ1 h128).2 (by omega)]
              congr 3
              exact decide_eq_decide.2 (by omega)
          · refine Ev.succ (fun k => ?_) (hQ2 h128)
            show gangsawref02_count.j1 (k + 1) s (at_ : Int) (n : Int) (i : Int) (b : Int) false = _
            rw [gangsawref02_count.j1, if_neg (by simp), E7.out, if_pos (by omega), if_neg (by omega), EN.out, E1'.out]
        by_cases h0 : 0 < 7 * i ∧ b = 0
        · rw [if_pos (.inr h0)]
          refine ⟨(n' : Int), ((at_ + i + 1 : Nat) : Int), hjump _ (fun _ => ⟨fun h => by omega, fun _ => by rw [h0.2]; rfl⟩) (fun h => absurd h (by omega))⟩
        · rw [if_neg (by rintro (h | h); exact h63 h; exact h0 h)]
          by_cases h128 : b < 128
          · rw [if_pos h128, show n + b * 2 ^ (7 * i) = n' by rw [HN'.out, Nat.mod_eq_of_lt h128]]
            exact hjump _ (fun _ => ⟨fun _ => rfl, fun h => by rw [show decide (0 < b) = true from decide_eq_true (by omega)]⟩) (fun h => absurd h128 h)
          · rw [if_neg h128]
            have ih := refCnt s hs at_ ha r (i + 1) n' (by omega) (by
              rcases (by omega : i ≤ 8 ∨ i = 9) with h8 | h9
              · exact HNX.out h8
              · exact absurd (show 7 * i = 63 ∧ 1 < b by omega) h63) (by omega)
            rw [show 7 * i + 7 = 7 * (i + 1) by omega, show at_ + i + 1 = at_ + (i + 1) by omega]
            generalize rdC s r (7 * (i + 1)) n' (at_ + (i + 1)) = o at ih ⊢
            cases o with
            | none =>
              obtain ⟨u, v, h⟩ := ih
              exact ⟨u, v, hjump _ (fun h => absurd h h128) (fun _ => h)⟩
            | some p => exact hjump _ (fun h => absurd h h128) (fun _ => ih)
    · rw [if_neg hlt]
      clear hn
      refine ⟨0, 0, Ev.succ' ?_⟩
      simp only [gangsawref02_count.l0, if_pos (show (i : Int) < 10 by omega), E0.out, if_pos (show ((at_ + i : Nat) : Int) ≥ (s.size : Int) by omega)]
      exact Ev.some
theorem refCnt0 (s : ByteArray) (hs : s.size ≤ 1000000) (at_ : Nat) (ha : at_ ≤ s.size) :
    match cntAt s at_ with
    | some (m, j) => Ev (fun k => gangsawref02_count.f k s (at_ : Int)) ((m : Int), (j : Int), true)
    | none => ∃ u v : Int, Ev (fun k => gangsawref02_count.f k s (at_ : Int)) (u, v, false) :=
  refCnt s hs at_ ha 10 0 0 (by omega) (by decide) (by omega)
/-! ### Reading a value -/
/-- What is read lies within the string. -/
theorem rdL_fit (s : ByteArray) (hs : s.size ≤ 1000000) (d : Nat) : ∀ (n i : Nat) (l : List S32) (j : Nat), i ≤ s.size → rdL (rdV s d) n i = some (l, j) → i + n ≤ j ∧ j ≤ s.size
  | 0, i, l, j, hi, h => by
    rw [rdL] at h
    simp only [Option.some.injEq, Prod.mk.injEq] at h
    omega
  | n + 1, i, l, j, hi, h => by
    rw [rdL, Option.bind_eq_some_iff] at h
    obtain ⟨⟨x, i'⟩, hx, h⟩ := h
    dsimp only at h
    rw [Option.bind_eq_some_iff] at h
    obtain ⟨⟨l', j'⟩, hl, h⟩ := h
    dsimp only at hl h
    simp only [Option.some.injEq, Prod.mk.injEq] at h
    cases d with
    | zero => rw [rdV] at hx; cases hx
    | succ d =>
      obtain ⟨_, _, _, hA, hj⟩ := rdVal s hs d i x i' hx
      have hp := enc_pos x
      have he := At.end_ hA hp
      have := rdL_fit s hs (d + 1) n i' l' j' (by omega) hl
      omega
abbrev zR : Int × Int × ByteArray × (List S24) × Int × Bool := (0, 0, ⟨#[]⟩, [], 0, false)
abbrev okR (x : S32) (j : Nat) : Int × Int × ByteArray × (List S24) × Int × Bool := (x.f0, x.f1, x.f2, toRL x.f3, (j : Int), true)
def rdR (o : Option (S32 × Nat)) : Int × Int × ByteArray × (List S24) × Int × Bool := match o with
  | some (x, j) => okR x j
  | none => zR
def rdLR (acc : List S24) (o : Option (List S32 × Nat)) : Int × Int × ByteArray × (List S24) × Int × Bool := match o with
  | some (l, j) => (3, 0, ⟨#[]⟩, acc ++ toRL l, (j : Int), true)
  | none => zR
theorem unzE (m : Nat) (hm : m < 2 ^ 64) : (Int.tmod (m : Int) 2 = 1 → wrap64 (wrap64 (-(wrap64 (IntKind.u64.wrap (Int.tdiv (m : Int) 2)))) - 1) = unz m) ∧ (¬ Int.tmod (m : Int) 2 = 1 → wrap64 (IntKind.u64.wrap (Int.tdiv (m : Int) 2)) = unz m) := by
  have e1 : Int.tmod (m : Int) 2 = ((m % 2 : Nat) : Int) := by
    rw [Int.tmod_eq_emod_of_nonneg (by omega)]
    omega
  have e2 : IntKind.u64.wrap (Int.tdiv (m : Int) 2) = ((m / 2 : Nat) : Int) := by
    rw [Int.tdiv_eq_ediv_of_nonneg (by omega), wrap_u64 (by omega) (by omega)]
    omega
  rw [e1, e2]
  obtain ⟨q, hq⟩ : ∃ q, q = m / 2 := ⟨_, rfl⟩
  rw [← hq]
  have e3 : wrap64 (q : Int) = (q : Int) := by unfold wrap64; omega
  have e4 : wrap64 (-(q : Int)) = -(q : Int) := by unfold wrap64; omega
  have e5 : wrap64 (-(q : Int) - 1) = -(q : Int) - 1 := by unfold wrap64; omega
  rw [e3, e4, e5]
  unfold unz
  rw [← hq]
  constructor
  · intro h
    rw [if_neg (by omega)]
  · intro h
    rw [if_pos (by omega)]
theorem readE (s : ByteArray) (hs : s.size ≤ 1000000) : ∀ (d i : Nat), d ≤ 16 → i ≤ s.size → Ev (fun k => gangsawref02_Read.f k s (i : Int) (d : Int)) (rdR (rdV s (d + 1) i)) := by
  intro d
  induction d using Nat.strongRecOn with
  | _ d ih =>
    intro i hd hi
    rw [rdV]
    by_cases hlt : i < s.size
    · rw [if_pos hlt]
      have hb := bt_byteAt s i hlt
      have hc := refCnt0 s hs (i + 1) (by omega)
      have e1 : wrap64 ((i : Int) + 1) = ((i + 1 : Nat) : Int) := w64s i (by omega)
      obtain ⟨b, hbe⟩ : ∃ b, b = byteAt s i := ⟨_, rfl⟩
      rw [← hbe] at hb ⊢
      have HB := Aside0.mk hb
      have E1 := Aside0.mk e1
      clear hb e1
      refine Ev.succ' ?_
      simp only [gangsawref02_Read.f, if_neg (show ¬ (i : Int) ≥ (s.size : Int) by omega), E1.out, HB.out, if_pos (show (0 : Int) ≤ (i : Int) by omega), if_pos (show (i : Int) < (s.size : Int) by omega)]
      cases hca : cntAt s (i + 1) with
      | none =>
        rw [hca] at hc
        obtain ⟨u, v, hc⟩ := hc
        simp only [Option.bind_none, ite_self]
        refine Ev.bind hc ?_
        simp only [Bool.false_eq_true, if_false]
        exact Ev.some
      | some p =>
        obtain ⟨m, j⟩ := p
        rw [hca] at hc
        obtain ⟨n, q1, q2, _, q4, q5⟩ := rdCnt s 10 0 (i + 1) m j (by omega) (by omega) hca
        simp only [Nat.sub_self, Nat.mul_zero, Nat.pow_zero, Nat.mul_one, Nat.zero_add] at q1 q2
        subst q1
        have hje := At.end_ q4 (cnt_pos m)
        have hij : i + 1 < j := by have := cnt_pos m; omega
        refine Ev.bind hc ?_
        simp only [Option.bind_some, if_true]
        by_cases h1 : b = 110
        · simp only [if_pos h1, if_pos (show (b : Int) = 110 by omega)]
          obtain ⟨u1, u2⟩ := unzE m q2
          by_cases ho : Int.tmod (m : Int) 2 = 1
          · simp only [if_pos ho, u1 ho]
            exact Ev.some
          · simp only [if_neg ho, u2 ho]
            exact Ev.some
        · simp only [if_neg h1, if_neg (show ¬ (b : Int) = 110 by omega)]
          by_cases h2 : b = 116
          · simp only [if_pos h2, if_pos (show (b : Int) = 116 by omega)]
            have w1 : IntKind.u64.wrap (wrap64 ((s.size : Int) - (j : Int))) = ((s.size - j : Nat) : Int) := by
              rw [show wrap64 ((s.size : Int) - (j : Int)) = ((s.size - j : Nat) : Int) by unfold wrap64; omega]
              exact wrap_u64 (by omega) (by omega)
            have W1 := Aside0.mk w1
            clear w1
            by_cases hm : m ≤ s.size - j
            · have w2 : wrap64 ((j : Int) + wrap64 (m : Int)) = ((j + m : Nat) : Int) := by
                rw [show wrap64 (m : Int) = (m : Int) by unfold wrap64; omega]
                unfold wrap64
                omega
              have W2 := Aside0.mk w2
              clear w2
              simp only [if_pos hm, W1.out, W2.out, if_neg (show ¬ (m : Int) > ((s.size - j : Nat) : Int) by omega), if_pos (show (0 : Int) ≤ (j : Int) by omega), if_pos (show (j : Int) ≤ ((j + m : Nat) : Int) by omega), if_pos (show ((j + m : Nat) : Int) ≤ (s.size : Int) by omega), Int.toNat_natCast]
              exact Ev.some
            · simp only [if_neg hm, W1.out, if_pos (show (m : Int) > ((s.size - j : Nat) : Int) by omega)]
              exact Ev.some
          · simp only [if_neg h2, if_neg (show ¬ (b : Int) = 116 by omega)]
            by_cases h3 : b = 108
            · simp only [if_pos h3, if_pos (show (b : Int) = 108 by omega)]
              have jT : Ev (fun k => gangsawref02_Read.j0 k s (d : Int) (m : Int) (j : Int) true) zR := Ev.succ' (by simp only [gangsawref02_Read.j0, if_true]; exact Ev.some)
              by_cases hd0 : d = 0
              · simp only [if_pos hd0, if_pos (show (d : Int) = 0 by omega)]
                exact jT
              · simp only [if_neg hd0, if_neg (show ¬ (d : Int) = 0 by omega)]
                have w1 : IntKind.u64.wrap (s.size : Int) = (s.size : Int) := wrap_u64 (by omega) (by omega)
                have W1 := Aside0.mk w1
                clear w1
                obtain ⟨d, rfl⟩ : ∃ e, d = e + 1 := ⟨d - 1, by omega⟩
                by_cases hm2 : m ≤ s.size
                · have w2 : wrap64 (((d + 1 : Nat) : Int) - 1) = (d : Int) := by unfold wrap64; omega
                  have W2 := Aside0.mk w2
                  clear w2
                  have loop : ∀ (r q e : Nat) (acc : List S24), q + r = m → q ≤ e → acc.length = q → e ≤ s.size →
                      Ev (fun k => gangsawref02_Read.l0 k s ((d + 1 : Nat) : Int) (m : Int) (e : Int) (q : Int) 3 0 (⟨#[]⟩ : ByteArray) acc) (rdLR acc (rdL (rdV s (d + 1)) r e)) := by
                    intro r
                    induction r with
                    | zero =>
                      intro q e acc hq hqe hacc he
                      refine Ev.succ' ?_
                      simp only [gangsawref02_Read.l0, if_neg (show ¬ (q : Int) < (m : Int) by omega), rdL, rdLR, toRL, List.append_nil]
                      exact Ev.some
                    | succ r ihr =>
                      intro q e acc hq hqe hacc he
                      have h1 := ih d (by omega) e (by omega) he
                      have wq : IntKind.u64.wrap ((q : Int) + 1) = ((q + 1 : Nat) : Int) := by rw [wrap_u64 (by omega) (by omega)]; omega
                      have WQ := Aside0.mk wq
                      clear wq
                      refine Ev.succ' ?_
                      simp only [gangsawref02_Read.l0, if_pos (show (q : Int) < (m : Int) by omega), W2.out, WQ.out, if_pos (show acc.length < 2513169434916 by omega)]
                      refine Ev.bind h1 ?_
                      rw [rdL]
                      cases hx : rdV s (d + 1) e with
                      | none =>
                        simp only [rdR, Option.bind_none, rdLR, Bool.false_eq_true, if_false]
                        exact Ev.some
                      | some p =>
                        obtain ⟨x, e'⟩ := p
                        obtain ⟨_, _, _, hA, hj⟩ := rdVal s hs d e x e' hx
                        have hp := enc_pos x
                        have hend := At.end_ hA hp
                        have h2 := ihr (q + 1) e' (acc ++ [toR x]) (by omega) (by omega) (by simp [hacc]) (by omega)
                        simp only [rdR, okR, if_true, Option.bind_some]
                        rw [show (⟨x.f0, x.f1, x.f2, toRL x.f3⟩ : S24) = toR x by cases x; rw [toR]]
                        cases hl : rdL (rdV s (d + 1)) r e' with
                        | none => rw [hl] at h2; simpa [rdLR] using h2
                        | some p => rw [hl] at h2; simpa [rdLR, toRL] using h2
                  have hL := loop m 0 j [] (by omega) (by omega) rfl (by omega)
                  simp only [W1.out]
                  have hjF : Ev (fun k => gangsawref02_Read.j0 k s ((d + 1 : Nat) : Int) (m : Int) (j : Int) (decide ((m : Int) > (s.size : Int)))) (rdLR [] (rdL (rdV s (d + 1)) m j)) := by
                    rw [decide_eq_false (show ¬ (m : Int) > (s.size : Int) by omega)]
                    refine Ev.succ' ?_
                    simp only [gangsawref02_Read.j0, Bool.false_eq_true, if_false]
                    exact hL
                  by_cases hm : m ≤ s.size - j
                  · simp only [if_pos hm]
                    cases hl : rdL (rdV s (d + 1)) m j with
                    | none => rw [hl] at hjF; simpa [rdLR, rdR] using hjF
                    | some p => rw [hl] at hjF; simpa [rdLR, rdR] using hjF
                  · simp only [if_neg hm]
                    cases hl : rdL (rdV s (d + 1)) m j with
                    | none => rw [hl] at hjF; simpa [rdLR, rdR] using hjF
                    | some p =>
                      obtain ⟨l, j'⟩ := p
                      have := rdL_fit s hs (d + 1) m j l j' (by omega) hl
                      omega
                · simp only [if_neg (show ¬ m ≤ s.size - j by omega), W1.out, decide_eq_true (show (m : Int) > (s.size : Int) by omega)]
                  exact jT
            · simp only [if_neg h3, if_neg (show ¬ (b : Int) = 108 by omega)]
              exact Ev.some
    · rw [if_neg hlt]
      refine Ev.succ' ?_
      simp only [gangsawref02_Read.f, if_pos (show (i : Int) ≥ (s.size : Int) by omega)]
      exact Ev.some
end Go.Proofs.YtcmphojichgfeaaDoor.QC
