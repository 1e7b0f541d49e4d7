/- The codec seat: plain law: the reference's Check and Encode. -/
import Derived.Test.YtcmphojichgfeaaDoorCP7
import Derived.Test.YtcmphojichgfeaaDoorCR2
import Derived.Test.YtcmphojichgfeaaDoorCR3
namespace Go.Proofs.YtcmphojichgfeaaDoor.QC
open Go.RowKit Go.Proofs.YtcmphojichgfeaaDoorW.PrintWords Go.Proofs.YtcmphojichgfeaaDoorW.PrintLast Go.Proofs.YtcmphojichgfeaaDoorW.PrintMore
set_option linter.unusedVariables false
set_option linter.unusedSimpArgs false
theorem son_app (A B : List Int) : strOfNums (A ++ B) = strOfNums A ++ strOfNums B := by
  apply ByteArray.ext
  rw [ByteArray.data_append]
  simp [strOfNums]
theorem ba_assoc (a b c : ByteArray) : (a ++ b) ++ c = a ++ (b ++ c) := by
  apply ByteArray.ext
  simp [ByteArray.data_append]
theorem ba_empty (a : ByteArray) : (⟨#[]⟩ : ByteArray) ++ a = a := by
  apply ByteArray.ext
  simp [ByteArray.data_append]
theorem son_ints (c : ByteArray) : strOfNums (ints c) = c := by
  apply ByteArray.ext
  apply Array.toList_inj.1
  simp only [strOfNums, ints, List.map_map]
  have : ((fun n : Int => UInt8.ofNat n.toNat) ∘ fun b : UInt8 => (b.toNat : Int)) = id := by
    funext b
    simp only [Function.comp, Int.toNat_natCast, id]
    exact UInt8.ofNat_toNat
  rw [this]
  simp
theorem encL_mem : ∀ {l : List S32} {x : S32}, x ∈ l → (encV x).length ≤ (encL l).length
  | y :: l, x, h => by
    rw [encL, List.length_append]
    rcases List.mem_cons.1 h with rfl | h
    · omega
    · have := encL_mem h; omega
theorem countE : ∀ (n : Nat), n < 2 ^ 64 → ∀ out : ByteArray, out.size + (cnt n).length ≤ 2000000 → Ev (fun k => gangsawref02_Count.l0 k (n : Int) out) (out ++ strOfNums (cnt n)) := by
  intro n
  induction n using Nat.strongRecOn with
  | _ n ih =>
    intro hn out ho
    refine Ev.succ' ?_
    rw [cnt] at ho ⊢
    by_cases h : n < 128
    · rw [dif_pos h] at ho ⊢
      simp only [gangsawref02_Count.l0, if_neg (show ¬ (n : Int) ≥ 128 by omega), Option.bind_some, show ((n : Int) % 256) = (n : Int) by omega, if_pos (show out.size + (strOfNums [(n : Int)]).size ≤ 9223372036854775807 by rw [son_size]; omega)]
      exact Ev.some
    · rw [dif_neg h] at ho ⊢
      rw [List.length_cons] at ho
      have e1 : ((Int.tmod (n : Int) 128) % 256 + 128) % 256 = ((n % 128 + 128 : Nat) : Int) := by
        rw [Int.tmod_eq_emod_of_nonneg (by omega)]
        omega
      have e2 : IntKind.u64.wrap (Int.tdiv (n : Int) 128) = ((n / 128 : Nat) : Int) := by
        rw [Int.tdiv_eq_ediv_of_nonneg (by omega), wrap_u64 (by omega) (by omega)]
        omega
      have e3 : (strOfNums [((n % 128 + 128 : Nat) : Int)]).size = 1 := son_size _
      simp only [gangsawref02_Count.l0, if_pos (show (n : Int) ≥ 128 by omega), Option.bind_some, e1, e2, if_pos (show out.size + (strOfNums [((n % 128 + 128 : Nat) : Int)]).size ≤ 9223372036854775807 by omega)]
      rw [show (((n % 128 + 128 : Nat) : Int) :: cnt (n / 128)) = [((n % 128 + 128 : Nat) : Int)] ++ cnt (n / 128) from rfl, son_app, ← ba_assoc]
      exact ih (n / 128) (by omega) (by omega) _ (by rw [ByteArray.size_append, e3]; omega)
theorem zigE (b : Int) (h : rng b) : gangsawref02_zigzag.f b = some ((zig b : Nat) : Int) := by
  obtain ⟨h1, h2⟩ := h
  unfold gangsawref02_zigzag.f
  by_cases h0 : b < 0
  · rw [if_pos h0, zigM h0 h1]
    have e1 : wrap64 (b + 1) = b + 1 := by unfold wrap64; omega
    have e2 : wrap64 (-(b + 1)) = -(b + 1) := by unfold wrap64; omega
    rw [e1, e2, wrap_u64 (n := -(b + 1)) (by omega) (by omega), wrap_u64 (n := 2 * -(b + 1)) (by omega) (by omega), wrap_u64 (by omega) (by omega)]
    congr 1
    omega
  · rw [if_neg h0, zigP (by omega) h2, wrap_u64 (n := b) (by omega) (by omega), wrap_u64 (by omega) (by omega)]
    congr 1
    omega
theorem writeE : ∀ (N : Nat) (x : S24), SizeOf.sizeOf x ≤ N → rngV (toY x) → (encV (toY x)).length ≤ 1000000 → Ev (fun k => gangsawref02_Write.f k x.f0 x.f1 x.f2 x.f3) (strOfNums (encV (toY x)))
  | 0, x, h, _, _ => absurd h (by cases x; simp only [S24.mk.sizeOf_spec]; omega)
  | N + 1, ⟨a, b, c, l⟩, h, hr, hn => by
    rw [toY, rngV] at hr
    obtain ⟨hb, _, _, hrl⟩ := hr
    rw [toY, encV] at hn ⊢
    refine Ev.succ' ?_
    simp only [gangsawref02_Write.f]
    have cE : ∀ n : Nat, n < 2 ^ 64 → Ev (fun k => gangsawref02_Count.f k (n : Int)) (strOfNums (cnt n)) := fun n hn => by
      have := countE n hn ⟨#[]⟩ (by have := cnt_len10 n hn; have : (⟨#[]⟩ : ByteArray).size = 0 := rfl; omega)
      rw [ba_empty] at this
      exact this
    have hd : ∀ n : Int, 0 ≤ n ∧ n ≤ 255 → ∀ L, (strOfNums (n :: L)) = (⟨#[UInt8.ofNat n.toNat]⟩ : ByteArray) ++ strOfNums L := fun n _ L => by
      rw [show n :: L = [n] ++ L from rfl, son_app]
      rfl
    by_cases h1 : a = 1
    · simp only [if_pos h1] at hn ⊢
      have hl := cnt_len10 (zig b) (zig_lt b)
      simp only [zigE b hb, Option.bind_some]
      refine Ev.bind (cE (zig b) (zig_lt b)) ?_
      rw [hd 110 (by omega)]
      exact Ev.const (fun k => by rw [if_pos (by rw [son_size]; omega)]; rfl)
    · simp only [if_neg h1] at hn ⊢
      by_cases h2 : a = 2
      · simp only [if_pos h2] at hn ⊢
        simp only [List.length_cons, List.length_append, ints_len'] at hn
        have hl := cnt_len10 c.size (by omega)
        simp only [wrap_u64 (n := (c.size : Int)) (by omega) (by omega)]
        refine Ev.bind (cE c.size (by omega)) ?_
        rw [hd 116 (by omega), son_app, son_ints, ← ba_assoc]
        exact Ev.const (fun k => by rw [if_pos (by rw [son_size]; omega), if_pos (by rw [ByteArray.size_append, son_size]; have : (⟨#[116]⟩ : ByteArray).size = 1 := rfl; omega)]; rfl)
      · simp only [if_neg h2] at hn ⊢
        simp only [List.length_cons, List.length_append] at hn
        have hyl := toYL_len l
        have hll := encL_len (toYL l)
        have hl := cnt_len10 (toYL l).length (by omega)
        simp only [wrap_u64 (n := (l.length : Int)) (by omega) (by omega)]
        rw [hyl] at hl hn ⊢
        refine Ev.bind (cE l.length (by omega)) ?_
        rw [hd 108 (by omega), son_app, ← ba_assoc]
        have loop : ∀ (m i : Nat) (out : ByteArray), i + m = l.length → out.size + (encL (toYL (l.drop i))).length ≤ 2000000 →
            Ev (fun k => gangsawref02_Write.l0 k out (i : Int) a b c l) (out ++ strOfNums (encL (toYL (l.drop i)))) := by
          intro m
          induction m with
          | zero =>
            intro i out hi ho
            refine Ev.succ' ?_
            simp only [gangsawref02_Write.l0, if_neg (show ¬ (i : Int) < (l.length : Int) by omega)]
            rw [List.drop_eq_nil_of_le (by omega)]
            refine Ev.const (fun k => ?_)
            congr 1
            apply ByteArray.ext
            simp [toYL, encL, strOfNums, ByteArray.data_append]
          | succ m ihm =>
            intro i out hi ho
            have hlt : i < l.length := by omega
            rw [List.drop_eq_getElem_cons hlt, toYL, encL, List.length_append] at ho
            rw [List.drop_eq_getElem_cons hlt, toYL, encL, son_app, ← ba_assoc]
            have hsub : (encL (toYL l)).length = (encL (toYL l)).length := rfl
            have hmemY : toY l[i] ∈ toYL l := by
              have := toYL_get l i hlt
              rw [← this]
              exact List.getElem_mem _
            have hle : (encV (toY l[i])).length ≤ (encL (toYL l)).length := encL_mem hmemY
            have h1 := writeE N l[i] (by have := size_mem24 (List.getElem_mem hlt) a b c; omega) (rngL_mem hrl _ hmemY) (by omega)
            have h2 := ihm (i + 1) (out ++ strOfNums (encV (toY l[i]))) (by omega) (by rw [ByteArray.size_append, son_size]; omega)
            refine Ev.succ' ?_
            simp only [gangsawref02_Write.l0, if_pos (show (i : Int) < (l.length : Int) by omega), if_pos (show (0 : Int) ≤ (i : Int) by omega), rd24 l i hlt, w64s i (by omega)]
            refine Ev.bind h1 ?_
            simp only [if_pos (show out.size + (strOfNums (encV (toY l[i]))).size ≤ 9223372036854775807 by rw [son_size]; omega)]
            exact h2
        have hL := loop l.length 0 ((⟨#[108]⟩ : ByteArray) ++ strOfNums (cnt l.length)) (by omega) (by rw [ByteArray.size_append, son_size, List.drop_zero]; have : (⟨#[108]⟩ : ByteArray).size = 1 := rfl; omega)
        rw [List.drop_zero] at hL
        refine Ev.congr (fun k => ?_) hL
        rw [if_pos (by rw [son_size]; omega)]
        rfl
theorem possE : ∀ (N : Nat) (x : S24), SizeOf.sizeOf x ≤ N → nodes x ≤ 1000000 → Ev (fun k => gangsawref02_Possible.f k x.f0 x.f1 x.f2 x.f3) (posV (toY x))
  | 0, x, h, _ => absurd h (by cases x; simp only [S24.mk.sizeOf_spec]; omega)
  | N + 1, ⟨a, b, c, l⟩, h, hn => by
    rw [nodes] at hn
    have hll := nodesL_len l
    have loop : ∀ (m i : Nat), i + m = l.length → Ev (fun k => gangsawref02_Possible.l0 k (i : Int) a b c l) (posL (toYL (l.drop i)) && (decide (1 ≤ a) && decide (a ≤ 3))) := by
      intro m
      induction m with
      | zero =>
        intro i hi
        refine Ev.succ' ?_
        simp only [gangsawref02_Possible.l0, if_neg (show ¬ (i : Int) < (l.length : Int) by omega)]
        rw [List.drop_eq_nil_of_le (by omega)]
        refine Ev.const (fun k => ?_)
        rw [toYL, posL]
        by_cases h1 : a ≥ 1
        · rw [if_pos h1, decide_eq_true (show 1 ≤ a by omega)]; simp
        · rw [if_neg h1, decide_eq_false (show ¬ 1 ≤ a by omega)]; simp
      | succ m ih =>
        intro i hi
        have hlt : i < l.length := by omega
        have h1 := possE N l[i] (by have := size_mem24 (List.getElem_mem hlt) a b c; omega) (by have := nodesL_mem (List.getElem_mem hlt); omega)
        have h2 := ih (i + 1) (by omega)
        rw [List.drop_eq_getElem_cons hlt, toYL, posL]
        refine Ev.succ' ?_
        simp only [gangsawref02_Possible.l0, if_pos (show (i : Int) < (l.length : Int) by omega), if_pos (show (0 : Int) ≤ (i : Int) by omega), rd24 l i hlt, w64s i (by omega)]
        refine Ev.bind h1 ?_
        cases posV (toY l[i]) with
        | true => simpa using h2
        | false => exact Ev.const (fun k => by simp)
    have hL := loop l.length 0 (by omega)
    rw [List.drop_zero] at hL
    have jT : Ev (fun k => gangsawref02_Possible.j0 k true a b c l) false := Ev.succ' (by simp only [gangsawref02_Possible.j0, if_true]; exact Ev.some)
    have jF : Ev (fun k => gangsawref02_Possible.j0 k false a b c l) (posL (toYL l) && (decide (1 ≤ a) && decide (a ≤ 3))) := Ev.succ' (by simp only [gangsawref02_Possible.j0, Bool.false_eq_true, if_false]; exact hL)
    have hlp : l ≠ [] → (l.length : Int) > 0 := by
      intro h
      cases l with
      | nil => exact absurd rfl h
      | cons x l => rw [List.length_cons]; omega
    have hz : decide ((([] : List S24).length : Int) > 0) = false := by decide
    have hlen : (decide ((l.length : Int) > 0) = true → l ≠ []) ∧ (decide ((l.length : Int) > 0) = false → l = []) := by
      cases l with
      | nil => simp
      | cons x l => simp
    refine Ev.succ' ?_
    simp only [gangsawref02_Possible.f]
    rw [toY, posV, toYL_len]
    by_cases h1 : a = 1
    · simp only [if_pos h1, if_neg (show ¬ a = 2 by omega), if_neg (show ¬ a = 3 by omega)]
      by_cases hc : c.toList = []
      · simp only [if_pos hc]
        by_cases hl : l = []
        · subst hl
          rw [hz, show (decide (c.toList = []) && decide (([] : List S24).length = 0)) = (posL (toYL []) && (decide (1 ≤ a) && decide (a ≤ 3))) by simp [toYL, posL, hc, h1]]
          exact jF
        · rw [decide_eq_true (show (l.length : Int) > 0 by exact hlp hl)]
          have : (decide (c.toList = []) && decide (l.length = 0)) = false := by simp [hl]
          rw [this]
          exact jT
      · simp only [if_neg hc, hc, decide_false, Bool.false_and]
        exact jT
    · simp only [if_neg h1]
      by_cases hb : b = 0
      · simp only [if_pos hb]
        by_cases h2 : a = 2
        · simp only [if_pos h2, if_neg (show ¬ a = 3 by omega)]
          by_cases hl : l = []
          · subst hl
            rw [hz, show (decide (b = 0) && decide (([] : List S24).length = 0)) = (posL (toYL []) && (decide (1 ≤ a) && decide (a ≤ 3))) by simp [toYL, posL, hb, h2]]
            exact jF
          · rw [decide_eq_true (show (l.length : Int) > 0 by exact hlp hl)]
            have : (decide (b = 0) && decide (l.length = 0)) = false := by simp [hl]
            rw [this]
            exact jT
        · simp only [if_neg h2]
          by_cases hc : c.toList = []
          · simp only [if_pos hc]
            by_cases h3 : a = 3
            · simp only [if_pos h3]
              refine Ev.congr (fun k => rfl) (by simpa [h3, hb, hc] using jF)
            · simp only [if_neg h3]
              by_cases hl : l = []
              · subst hl
                have e : (posL (toYL []) && (decide (1 ≤ a) && decide (a ≤ 3))) = false := by
                  by_cases q : 1 ≤ a <;> by_cases q2 : a ≤ 3 <;> simp [toYL, posL, q, q2] <;> omega
                rw [e] at jF
                simpa using jF
              · rw [decide_eq_true (show (l.length : Int) > 0 by exact hlp hl)]
                exact jT
          · simp only [if_neg hc]
            have e : (if a = 3 then (decide (b = 0) && (decide (c.toList = []) && posL (toYL l))) else false) = false := by split <;> simp [hc]
            rw [e]
            exact jT
      · simp only [if_neg hb]
        have e : (if a = 2 then (decide (b = 0) && decide (l.length = 0)) else if a = 3 then (decide (b = 0) && (decide (c.toList = []) && posL (toYL l))) else false) = false := by
          split
          · simp [hb]
          · split <;> simp [hb]
        rw [e]
        exact jT
theorem depthE : ∀ (N : Nat) (x : S24), SizeOf.sizeOf x ≤ N → nodes x ≤ 1000000 → posV (toY x) = true → (encV (toY x)).length ≤ 1000000 → Ev (fun k => gangsawref02_Depth.f k x.f0 x.f1 x.f2 x.f3) ((dep (toY x) : Nat) : Int)
  | 0, x, h, _, _, _ => absurd h (by cases x; simp only [S24.mk.sizeOf_spec]; omega)
  | N + 1, ⟨a, b, c, l⟩, h, hn, hp, hle => by
    rw [nodes] at hn
    have hll := nodesL_len l
    rw [toY] at hp hle ⊢
    rw [dep]
    refine Ev.succ' ?_
    simp only [gangsawref02_Depth.f]
    by_cases h1 : a = 1
    · simp only [if_pos h1, if_neg (show ¬ a = 3 by omega)]
      exact Ev.some
    · by_cases h2 : a = 2
      · simp only [if_neg h1, if_pos h2, if_neg (show ¬ a = 3 by omega)]
        exact Ev.some
      · obtain ⟨h3, _, _, hpl⟩ := posV_three hp h1 h2
        simp only [if_neg h1, if_neg h2, if_pos h3]
        rw [encV, if_neg h1, if_neg h2] at hle
        simp only [List.length_cons, List.length_append] at hle
        have loop : ∀ (m i D : Nat), i + m = l.length → D ≤ 1000000 → Ev (fun k => gangsawref02_Depth.l0 k (D : Int) (i : Int) a b c l) (((max D (depL (toYL (l.drop i))) + 1 : Nat) : Int)) := by
          intro m
          induction m with
          | zero =>
            intro i D hi hD
            refine Ev.succ' ?_
            simp only [gangsawref02_Depth.l0, if_neg (show ¬ (i : Int) < (l.length : Int) by omega)]
            rw [List.drop_eq_nil_of_le (by omega)]
            refine Ev.const (fun k => ?_)
            rw [toYL, depL, show wrap64 ((D : Int) + 1) = ((max D 0 + 1 : Nat) : Int) by unfold wrap64; omega]
          | succ m ih =>
            intro i D hi hD
            have hlt : i < l.length := by omega
            have hmemY : toY l[i] ∈ toYL l := by
              have := toYL_get l i hlt
              rw [← this]
              exact List.getElem_mem _
            have hle2 : (encV (toY l[i])).length ≤ (encL (toYL l)).length := encL_mem hmemY
            have hdl := dep_len (toY l[i])
            have h1 := depthE N l[i] (by have := size_mem24 (List.getElem_mem hlt) a b c; omega) (by have := nodesL_mem (List.getElem_mem hlt); omega) (posL_mem hpl _ hmemY) (by omega)
            have h2 := ih (i + 1) (max D (dep (toY l[i]))) (by omega) (by omega)
            rw [List.drop_eq_getElem_cons hlt, toYL, depL]
            refine Ev.succ' ?_
            simp only [gangsawref02_Depth.l0, if_pos (show (i : Int) < (l.length : Int) by omega), if_pos (show (0 : Int) ≤ (i : Int) by omega), rd24 l i hlt, w64s i (by omega)]
            refine Ev.bind h1 ?_
            have em : mx (D : Int) ((dep (toY l[i]) : Nat) : Int) = ((max D (dep (toY l[i])) : Nat) : Int) := by unfold mx; split <;> omega
            simp only [em]
            rw [show max D (max (dep (toY l[i])) (depL (toYL (l.drop (i + 1))))) = max (max D (dep (toY l[i]))) (depL (toYL (l.drop (i + 1)))) by omega]
            exact h2
        have hL := loop l.length 0 0 (by omega) (by omega)
        rw [List.drop_zero, show max 0 (depL (toYL l)) = depL (toYL l) by omega] at hL
        exact hL
theorem refCheckE (x : S24) (hn : nodes x ≤ 1000000) (hr : rngV (toY x)) (hl : (encV (toY x)).length ≤ 1000000) : Ev (fun k => gangsawref02_Check.f k x.f0 x.f1 x.f2 x.f3) (chk (toY x)) := by
  simp only [gangsawref02_Check.f]
  refine Ev.bind (possE _ x (Nat.le_refl _) hn) ?_
  unfold chk
  by_cases hp : posV (toY x) = true
  · simp only [hp, if_true]
    refine Ev.bind (depthE _ x (Nat.le_refl _) hn hp hl) ?_
    by_cases hd : 16 < dep (toY x)
    · simp only [if_pos hd, if_pos (show ((dep (toY x) : Nat) : Int) > 16 by omega)]
      exact Ev.some
    · simp only [if_neg hd, if_neg (show ¬ ((dep (toY x) : Nat) : Int) > 16 by omega)]
      refine Ev.bind (writeE _ x (Nat.le_refl _) hr hl) ?_
      exact Ev.const (fun k => by rw [if_neg (by rw [son_size]; omega)])
  · simp only [if_neg hp]
    exact Ev.some
theorem refEncodeE (x : S24) (hn : nodes x ≤ 1000000) (hr : rngV (toY x)) (hl : (encV (toY x)).length ≤ 1000000) : Ev (fun k => gangsawref02_Encode.f k x.f0 x.f1 x.f2 x.f3) (if chk (toY x) = 0 then encS (toY x) else ⟨#[]⟩) := by
  simp only [gangsawref02_Encode.f]
  refine Ev.bind (refCheckE x hn hr hl) ?_
  by_cases h : chk (toY x) = 0
  · simp only [if_pos h]
    exact Ev.bind (writeE _ x (Nat.le_refl _) hr hl) Ev.some
  · simp only [if_neg h]
    exact Ev.some
end Go.Proofs.YtcmphojichgfeaaDoor.QC
