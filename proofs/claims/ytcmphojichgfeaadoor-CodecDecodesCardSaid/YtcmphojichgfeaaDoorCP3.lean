/- The codec seat: plain law: what Check and Encode answer. -/
import Derived.Test.YtcmphojichgfeaaDoorCP1a
import Derived.Test.YtcmphojichgfeaaDoorCB3
namespace Go.Proofs.YtcmphojichgfeaaDoor.QC
open Go.RowKit Go.Proofs.YtcmphojichgfeaaDoorW.PrintWords Go.Proofs.YtcmphojichgfeaaDoorW.PrintLast Go.Proofs.YtcmphojichgfeaaDoorW.PrintMore
set_option linter.unusedVariables false
set_option linter.unusedSimpArgs false
theorem cnt_pos (n : Nat) : 1 ≤ (cnt n).length := by
  rw [cnt]
  split <;> simp
theorem enc_pos (x : S32) : 1 ≤ (encV x).length := by
  cases x
  rw [encV]
  split
  · simp
  · split <;> simp
theorem encL_len : ∀ l : List S32, l.length ≤ (encL l).length
  | [] => Nat.le_refl _
  | x :: l => by
    have := encL_len l
    have := enc_pos x
    rw [encL, List.length_append, List.length_cons]
    omega
theorem encL_split (l : List S32) (i : Nat) : (encL l).length = (encL (l.take i)).length + (encL (l.drop i)).length := by
  induction l generalizing i with
  | nil => simp [encL]
  | cons x l ih =>
    cases i with
    | zero => simp [encL]
    | succ i =>
      simp only [List.take_succ_cons, List.drop_succ_cons, encL, List.length_append]
      rw [ih i]
      omega
mutual
def dep : S32 → Nat
  | ⟨a, _, _, l⟩ => if a = 1 then 0 else if a = 2 then 0 else depL l + 1
def depL : List S32 → Nat
  | [] => 0
  | x :: l => max (dep x) (depL l)
end
mutual
theorem dep_len : ∀ x : S32, dep x ≤ (encV x).length
  | ⟨a, b, c, l⟩ => by
    rw [dep, encV]
    split
    · omega
    · split
      · omega
      · have := depL_len l
        simp only [List.length_cons, List.length_append]
        omega
theorem depL_len : ∀ l : List S32, depL l ≤ (encL l).length
  | [] => Nat.le_refl _
  | x :: l => by
    have := dep_len x
    have := depL_len l
    rw [depL, encL, List.length_append]
    omega
end
/-! ### Counts' lengths -/
theorem bit_cnt : ∀ (k n : Nat), n < 2 ^ (7 * k) → n < 2 ^ 64 → 0 < k → (cnt n).length = max 1 ((Lib.bitLen n + 6) / 7)
  | 0, _, _, _, h => absurd h (by omega)
  | k + 1, n, hn, h64, _ => by
    rw [cnt]
    by_cases h : n < 128
    · rw [dif_pos h]
      have h' : ∀ m : Fin 256, m.val < 128 → max 1 ((Lib.bitLen m.val + 6) / 7) = 1 := by decide +kernel
      exact (h' ⟨n, by omega⟩ h).symm
    · rw [dif_neg h]
      have hk : 0 < k := by
        apply Nat.pos_of_ne_zero
        rintro rfl
        simp at hn
        omega
      have hn2 : n / 128 < 2 ^ (7 * k) := by
        rw [show 7 * (k + 1) = 7 * k + 7 by omega, Nat.pow_add] at hn
        exact Nat.div_lt_of_lt_mul (by rw [Nat.mul_comm]; exact hn)
      have ih := bit_cnt k (n / 128) hn2 (by omega) hk
      have hs := Lib.bitLen_shift 7 n (by omega) h64
      rw [List.length_cons, ih, hs]
      have hp : 1 ≤ Lib.bitLen (n / 128) := by
        have := Lib.bitLen_half (n / 128) (by omega) (by omega)
        omega
      rw [show (2 : Nat) ^ 7 = 128 by decide]
      omega
theorem bit_le (n : Nat) (h64 : n < 2 ^ 64) : Lib.bitLen n ≤ 64 := by
  have : ∀ f x, Lib.bitLenAux f x ≤ f := by
    intro f
    induction f with
    | zero => intro x; simp [Lib.bitLenAux]
    | succ f ih => intro x; rw [Lib.bitLenAux]; split; omega; have := ih (x / 2); omega
  exact this 64 n
theorem grpE (n : Nat) (h64 : n < 2 ^ 64) : codec_groups.f (n : Int) = some (((cnt n).length : Nat) : Int) := by
  have hb := bit_le n h64
  unfold codec_groups.f bits_Len64.f
  rw [if_pos (by omega), Int.toNat_natCast]
  simp only [Option.bind_some, Option.some.injEq]
  rw [bit_cnt 10 n (Nat.lt_of_lt_of_le h64 (by decide)) h64 (by omega)]
  have e : wrap64 ((Lib.bitLen n : Int) + 6) = ((Lib.bitLen n + 6 : Nat) : Int) := by unfold wrap64; omega
  have e2 : Int.tdiv ((Lib.bitLen n + 6 : Nat) : Int) 7 = (((Lib.bitLen n + 6) / 7 : Nat) : Int) := by
    rw [Int.tdiv_eq_ediv_of_nonneg (by omega)]
    omega
  have e3 : wrap64 (((Lib.bitLen n + 6) / 7 : Nat) : Int) = (((Lib.bitLen n + 6) / 7 : Nat) : Int) := by unfold wrap64; omega
  rw [e, e2, e3]
  unfold mx
  split <;> omega
theorem cnt_len10 (n : Nat) (h64 : n < 2 ^ 64) : (cnt n).length ≤ 10 := cnt_len 10 n (Nat.lt_of_lt_of_le h64 (by decide)) (by omega)
theorem zig_lt (b : Int) : zig b < 2 ^ 64 := by have := zig_range b; unfold zig; omega
/-! ### measure -/
theorem measureE : ∀ (N : Nat) (x : S32), SizeOf.sizeOf x ≤ N → (encV x).length ≤ 1000000 → Ev (fun k => codec_measure.f k x.f0 x.f1 x.f2 x.f3) ((dep x : Int), ((encV x).length : Int))
  | 0, x, h, _ => absurd h (by cases x; simp only [S32.mk.sizeOf_spec]; omega)
  | N + 1, ⟨a, b, c, l⟩, h, hn => by
    refine Ev.succ' ?_
    rw [encV, dep] at *
    simp only [codec_measure.f]
    by_cases h1 : a = 1
    · simp only [if_pos h1] at hn ⊢
      have hz : codec_zigzag.f b = some ((zig b : Nat) : Int) := by
        have := zig_range b
        rw [show ((zig b : Nat) : Int) = zigI b by unfold zig; omega]
        rfl
      have hl := cnt_len10 (zig b) (zig_lt b)
      simp only [hz, Option.bind_some, grpE (zig b) (zig_lt b)]
      refine Ev.const (fun k => ?_)
      rw [show wrap64 (1 + (((cnt (zig b)).length : Nat) : Int)) = (((110 :: cnt (zig b)).length : Nat) : Int) by unfold wrap64; rw [List.length_cons]; omega]
      rfl
    · simp only [if_neg h1] at hn ⊢
      by_cases h2 : a = 2
      · simp only [if_pos h2] at hn ⊢
        have hl0 : (ints c).length = c.size := by simp [ints]
        simp only [List.length_cons, List.length_append, hl0] at hn ⊢
        have hw : IntKind.u64.wrap (c.size : Int) = (c.size : Int) := wrap_u64 (by omega) (by omega)
        have hl := cnt_len10 c.size (by omega)
        simp only [hw, Option.bind_some, grpE c.size (by omega)]
        refine Ev.const (fun k => ?_)
        rw [show wrap64 (wrap64 (1 + (((cnt c.size).length : Nat) : Int)) + (c.size : Int)) = (((cnt c.size).length + c.size + 1 : Nat) : Int) by unfold wrap64; omega]
        rfl
      · simp only [if_neg h2] at hn ⊢
        simp only [List.length_cons, List.length_append] at hn ⊢
        have hll := encL_len l
        have hw : IntKind.u64.wrap (l.length : Int) = (l.length : Int) := wrap_u64 (by omega) (by omega)
        have hl := cnt_len10 l.length (by omega)
        simp only [hw, Option.bind_some, grpE l.length (by omega)]
        have loop : ∀ (m i D S : Nat), i + m = l.length → D ≤ 1000000 → S + (encL (l.drop i)).length ≤ 1000000 →
            Ev (fun k => codec_measure.l0 k (D : Int) (S : Int) l (l.length : Int) (i : Int)) (((max D (depL (l.drop i)) + 1 : Nat) : Int), ((S + (encL (l.drop i)).length : Nat) : Int)) := by
          intro m
          induction m with
          | zero =>
            intro i D S hi hD hS
            refine Ev.succ' ?_
            simp only [codec_measure.l0, if_neg (show ¬ (i : Int) < (l.length : Int) by omega)]
            rw [List.drop_eq_nil_of_le (by omega)]
            refine Ev.const (fun k => ?_)
            rw [show wrap64 ((D : Int) + 1) = ((max D (depL []) + 1 : Nat) : Int) by unfold wrap64; rw [depL]; omega, encL]
            rfl
          | succ m ih =>
            intro i D S hi hD hS
            have hlt : i < l.length := by omega
            rw [List.drop_eq_getElem_cons hlt] at hS ⊢
            rw [encL, List.length_append] at hS
            rw [encL, depL, List.length_append]
            have hdl := dep_len l[i]
            have h1 := measureE N l[i] (by have := size_mem32 (List.getElem_mem hlt) a b c; omega) (by omega)
            have h2 := ih (i + 1) (max D (dep l[i])) (S + (encV l[i]).length) (by omega) (by omega) (by omega)
            refine Ev.succ' ?_
            simp only [codec_measure.l0, if_pos (show (i : Int) < (l.length : Int) by omega), if_pos (show (0 : Int) ≤ (i : Int) by omega), rd32 l i hlt, w64s i (by omega)]
            refine Ev.bind h1 ?_
            have em : mx (D : Int) ((dep l[i] : Nat) : Int) = ((max D (dep l[i]) : Nat) : Int) := by unfold mx; split <;> omega
            have en : mn 1000001 (wrap64 ((S : Int) + (((encV l[i]).length : Nat) : Int))) = ((S + (encV l[i]).length : Nat) : Int) := by
              rw [show wrap64 ((S : Int) + (((encV l[i]).length : Nat) : Int)) = ((S + (encV l[i]).length : Nat) : Int) by unfold wrap64; omega]
              unfold mn
              split <;> omega
            simp only [em, en]
            rw [show max D (max (dep l[i]) (depL (l.drop (i + 1)))) = max (max D (dep l[i])) (depL (l.drop (i + 1))) by omega, show S + ((encV l[i]).length + (encL (l.drop (i + 1))).length) = S + (encV l[i]).length + (encL (l.drop (i + 1))).length by omega]
            exact h2
        have hL := loop l.length 0 0 (1 + (cnt l.length).length) (by omega) (by omega) (by rw [List.drop_zero]; omega)
        rw [List.drop_zero] at hL
        rw [show wrap64 (1 + (((cnt l.length).length : Nat) : Int)) = ((1 + (cnt l.length).length : Nat) : Int) by unfold wrap64; omega]
        rw [show ((cnt l.length).length + (encL l).length + 1 : Nat) = 1 + (cnt l.length).length + (encL l).length by omega, show depL l + 1 = max 0 (depL l) + 1 by omega]
        exact hL
/-! ### Check and Encode -/
def chk (x : S32) : Int := if posV x = true then (if 16 < dep x then 7 else 0) else 1
theorem checkE (x : S32) (hn : (encV x).length ≤ 1000000) : Ev (fun k => codec_Check.f k x.f0 x.f1 x.f2 x.f3) (chk x) := by
  have hm := measureE _ x (Nat.le_refl _) hn
  have hp : codec_possible.f x.f0 x.f1 x.f2 x.f3 = some (posV x) := by rw [codec_possible.f, pos_eta]
  unfold chk
  simp only [codec_Check.f, hp, Option.bind_some]
  cases posV x with
  | false => exact Ev.const (fun k => by simp)
  | true =>
    simp only [if_true]
    refine Ev.bind hm ?_
    refine Ev.const (fun k => ?_)
    by_cases h : 16 < dep x
    · rw [if_pos h, if_pos (by omega)]
    · rw [if_neg h, if_neg (by omega), if_neg (by omega)]
def encS (x : S32) : ByteArray := strOfNums (encV x)
theorem encodeE (x : S32) (hn : (encV x).length ≤ 1000000) : Ev (fun k => codec_Encode.f k x.f0 x.f1 x.f2 x.f3) (if chk x = 0 then (encS x, 0) else (⟨#[]⟩, chk x)) := by
  have hw : codec_write.f ([] : List Int) x.f0 x.f1 x.f2 x.f3 = some (encV x) := by
    rw [codec_write.f, enc_eta, List.nil_append, if_pos (by omega)]
  simp only [codec_Encode.f]
  refine Ev.bind (checkE x hn) ?_
  simp only [hw, Option.bind_some]
  refine Ev.const (fun k => ?_)
  by_cases h : chk x = 0
  · rw [if_pos h, if_pos h]; rfl
  · rw [if_neg h, if_neg h]
/-- A value that is Small has a short encoding. -/
theorem small_len : ∀ (d : Nat) (x : S24), sm x d → nodes x ≤ 1000000 → (encV (toY x)).length ≤ 211 * nodes x
  | 0, ⟨a, b, c, l⟩, h, _ => by simp [sm] at h
  | d + 1, ⟨a, b, c, l⟩, h, hn => by
    rw [sm] at h
    obtain ⟨hc, hl⟩ := h
    rw [nodes] at hn
    rw [toY, encV, nodes]
    have h1 := cnt_len10 (zig b) (zig_lt b)
    have h2 := cnt_len10 c.size (by omega)
    have hll := nodesL_len l
    have h3 := cnt_len10 (toYL l).length (by rw [toYL_len]; omega)
    have hi : (ints c).length = c.size := by simp [ints]
    have hL : ∀ l : List S24, (∀ y ∈ l, sm y d) → nodesL l ≤ 1000000 → (encL (toYL l)).length ≤ 211 * nodesL l := by
      intro l
      induction l with
      | nil => intro _ _; simp [toYL, encL]
      | cons y l ih =>
        intro hy hn
        rw [nodesL] at hn
        have a1 := small_len d y (hy y (List.mem_cons_self ..)) (by omega)
        have a2 := ih (fun z hz => hy z (List.mem_cons_of_mem _ hz)) (by omega)
        rw [toYL, encL, List.length_append, nodesL]
        omega
    have hL' := hL l hl (by omega)
    split
    · simp only [List.length_cons]; omega
    · split
      · simp only [List.length_cons, List.length_append, hi]; omega
      · simp only [List.length_cons, List.length_append]; omega
end Go.Proofs.YtcmphojichgfeaaDoor.QC
