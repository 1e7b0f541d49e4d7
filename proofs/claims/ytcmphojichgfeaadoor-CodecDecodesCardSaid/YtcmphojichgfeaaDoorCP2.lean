/- The codec seat: plain law: the reference's order is the program's. -/
import Derived.Test.YtcmphojichgfeaaDoorCR5
import Derived.Test.YtcmphojichgfeaaDoorCP1a
namespace Go.Proofs.YtcmphojichgfeaaDoor.QC
open Go.RowKit Go.Proofs.YtcmphojichgfeaaDoorW.PrintWords Go.Proofs.YtcmphojichgfeaaDoorW.PrintLast Go.Proofs.YtcmphojichgfeaaDoorW.PrintMore
set_option linter.unusedVariables false
set_option linter.unusedSimpArgs false
theorem u8_tri (a b : UInt8) : a < b ∨ a = b ∨ b < a := by
  rw [UInt8.lt_iff_toNat_lt, UInt8.lt_iff_toNat_lt, ← UInt8.toNat_inj]
  omega
theorem u8_irr {a b : UInt8} (h : a < b) : ¬ b < a ∧ ¬ a = b := by
  rw [UInt8.lt_iff_toNat_lt] at h ⊢
  rw [← UInt8.toNat_inj]
  omega
theorem cbE : ∀ x y : List UInt8, Lib.compareBytes x y = if x = y then 0 else if Op.bytesLess x y = true then -1 else 1
  | [], [] => by simp [Lib.compareBytes]
  | [], _ :: _ => by simp [Lib.compareBytes, Op.bytesLess]
  | _ :: _, [] => by simp [Lib.compareBytes, Op.bytesLess]
  | a :: x, b :: y => by
    have ih := cbE x y
    rw [Lib.compareBytes]
    rcases u8_tri a b with h | h | h
    · obtain ⟨h1, h2⟩ := u8_irr h
      rw [if_pos h, if_neg (by simp [h2])]
      simp [Op.bytesLess, h]
    · subst h
      have h1 : ¬ a < a := fun h => (u8_irr h).1 h
      rw [if_neg h1, if_neg h1, ih]
      by_cases e : x = y
      · subst e; simp
      · rw [if_neg e, if_neg (show ¬ (a :: x = a :: y) by simp [e]), show Op.bytesLess (a :: x) (a :: y) = Op.bytesLess x y by simp [Op.bytesLess, h1]]
    · obtain ⟨h1, h2⟩ := u8_irr h
      have h3 : ¬ a = b := fun e => h2 e.symm
      rw [if_neg h1, if_pos h, if_neg (by simp [h3])]
      simp [Op.bytesLess, h1, h3]
theorem ciE (x y : Int) : Lib.compareInt x y = if x = y then 0 else if x < y then -1 else 1 := by
  unfold Lib.compareInt
  split <;> split <;> (try split) <;> omega
theorem signE (b : Bool) : gangsawref02_sign.f b = some (if b = true then -1 else 1) := by
  unfold gangsawref02_sign.f
  split <;> rfl
theorem cmpE : ∀ (N : Nat) (x y : S24), SizeOf.sizeOf x ≤ N → nodes x ≤ 1000000 → Ev (fun k => gangsawref02_Compare.f k x.f0 x.f1 x.f2 x.f3 y.f0 y.f1 y.f2 y.f3) (cmpS (toY x) (toY y))
  | 0, x, _, h, _ => absurd h (by cases x; simp only [S24.mk.sizeOf_spec]; omega)
  | N + 1, ⟨a, b, c, l⟩, ⟨a', b', c', l'⟩, h, hn => by
    rw [nodes] at hn
    have hll := nodesL_len l
    have loop : ∀ (m i : Nat), i + m = l.length → i ≤ l'.length → Ev (fun k => gangsawref02_Compare.l0 k (i : Int) a b c l a' b' c' l') (cmpL (toYL (l.drop i)) (toYL (l'.drop i))) := by
      have hend : ∀ (i : Nat) (v : Int), (l.length = l'.length → v = 0) → (l.length < l'.length → v = -1) → (l'.length < l.length → v = 1) → Ev (fun k => gangsawref02_Compare.j1 k (i : Int) false a b c l a' b' c' l') v := by
        intro i v h0 h1 h2
        refine Ev.succ (g := fun _ => some v) (fun k => ?_) Ev.some
        show gangsawref02_Compare.j1 (k + 1) (i : Int) false a b c l a' b' c' l' = some v
        rw [gangsawref02_Compare.j1, if_neg (by simp)]
        by_cases e : l.length = l'.length
        · rw [if_pos (by omega), h0 e]
        · rw [if_neg (by omega), signE]
          by_cases e2 : l.length < l'.length
          · rw [h1 e2, decide_eq_true (show (l.length : Int) < (l'.length : Int) by omega)]; rfl
          · rw [h2 (by omega), decide_eq_false (show ¬ (l.length : Int) < (l'.length : Int) by omega)]; rfl
      intro m
      induction m with
      | zero =>
        intro i hi hi'
        refine Ev.succ (g := fun k => gangsawref02_Compare.j1 k (i : Int) false a b c l a' b' c' l') (fun k => ?_) (hend i _ ?_ ?_ ?_)
        · show gangsawref02_Compare.l0 (k + 1) (i : Int) a b c l a' b' c' l' = _
          rw [gangsawref02_Compare.l0, if_neg (by omega)]
        · intro e
          rw [List.drop_eq_nil_of_le (by omega), List.drop_eq_nil_of_le (by omega)]
          rfl
        · intro e
          rw [List.drop_eq_nil_of_le (by omega), List.drop_eq_getElem_cons (show i < l'.length by omega)]
          rfl
        · intro e; omega
      | succ m ih =>
        intro i hi hi'
        have hlt : i < l.length := by omega
        by_cases hlt' : i < l'.length
        · have h1 := cmpE N l[i] l'[i] (by have := size_mem24 (List.getElem_mem hlt) a b c; omega) (by have := nodesL_mem (List.getElem_mem hlt); omega)
          have h2 := ih (i + 1) (by omega) (by omega)
          rw [List.drop_eq_getElem_cons hlt, List.drop_eq_getElem_cons hlt']
          simp only [toYL, cmpL]
          refine Ev.succ (g := fun k => gangsawref02_Compare.j1 k (i : Int) true a b c l a' b' c' l') (fun k => ?_) (Ev.succ (g := fun k => (gangsawref02_Compare.f k l[i].f0 l[i].f1 l[i].f2 l[i].f3 l'[i].f0 l'[i].f1 l'[i].f2 l'[i].f3).bind fun t => if t = 0 then gangsawref02_Compare.l0 k ((i + 1 : Nat) : Int) a b c l a' b' c' l' else some t) (fun k => ?_) (Ev.bind h1 ?_))
          · show gangsawref02_Compare.l0 (k + 1) (i : Int) a b c l a' b' c' l' = _
            rw [gangsawref02_Compare.l0, if_pos (by omega), decide_eq_true (show (i : Int) < (l'.length : Int) by omega)]
          · show gangsawref02_Compare.j1 (k + 1) (i : Int) true a b c l a' b' c' l' = _
            rw [gangsawref02_Compare.j1, if_pos rfl, if_pos (by omega), if_pos (by omega), if_pos (by omega), rd24 l i hlt, rd24 l' i hlt', w64s i (by omega)]
          · unfold orI
            by_cases e : cmpS (toY l[i]) (toY l'[i]) = 0
            · simp only [if_pos e]
              exact h2
            · simp only [if_neg e]
              exact Ev.some
        · refine Ev.succ (g := fun k => gangsawref02_Compare.j1 k (i : Int) false a b c l a' b' c' l') (fun k => ?_) (hend i _ ?_ ?_ ?_)
          · show gangsawref02_Compare.l0 (k + 1) (i : Int) a b c l a' b' c' l' = _
            rw [gangsawref02_Compare.l0, if_pos (by omega), decide_eq_false (show ¬ (i : Int) < (l'.length : Int) by omega)]
          · intro e; omega
          · intro e; omega
          · intro e
            rw [List.drop_eq_getElem_cons hlt, show l'.drop i = [] from List.drop_eq_nil_of_le (by omega)]
            rfl
    have hcmp : cmpS (toY ⟨a, b, c, l⟩) (toY ⟨a', b', c', l'⟩) = orI (Lib.compareInt a a') (orI (Lib.compareInt b b') (orI (Lib.compareBytes c.data.toList c'.data.toList) (cmpL (toYL l) (toYL l')))) := by
      simp only [toY, cmpS]
    rw [hcmp, ciE, ciE, cbE]
    have hs : ∀ (F : Nat → Option Int) (v : Bool) (r : Int), (∀ k, F (k + 1) = (gangsawref02_sign.f v).bind fun t => some t) → r = (if v = true then -1 else 1) → Ev F r := by
      intro F v r hF hr
      refine Ev.succ (g := fun _ => some r) (fun k => ?_) Ev.some
      rw [hF, signE, hr]
      rfl
    by_cases ha : a = a'
    · by_cases hb : b = b'
      · by_cases hc : c.data.toList = c'.data.toList
        · have h0 := loop l.length 0 (by omega) (by omega)
          simp only [List.drop_zero] at h0
          rw [if_pos ha, if_pos hb, if_pos hc]
          simp only [orI, if_true]
          refine Ev.succ (g := fun k => gangsawref02_Compare.l0 k ((0 : Nat) : Int) a b c l a' b' c' l') (fun k => ?_) h0
          show gangsawref02_Compare.f (k + 1) a b c l a' b' c' l' = _
          rw [gangsawref02_Compare.f, if_pos ha, if_pos hb, if_pos (by rw [ByteArray.toList_eq, ByteArray.toList_eq]; exact hc)]
          rfl
        · rw [if_pos ha, if_pos hb, if_neg hc]
          simp only [orI, if_true]
          refine hs _ (Op.bytesLess c.toList c'.toList) _ (fun k => ?_) ?_
          · show gangsawref02_Compare.f (k + 1) a b c l a' b' c' l' = _
            rw [gangsawref02_Compare.f, if_pos ha, if_pos hb, if_neg (by rw [ByteArray.toList_eq, ByteArray.toList_eq]; exact hc)]
          · rw [ByteArray.toList_eq, ByteArray.toList_eq]
            split <;> simp
      · rw [if_pos ha, if_neg hb]
        simp only [orI, if_true]
        refine hs _ (decide (b < b')) _ (fun k => ?_) ?_
        · show gangsawref02_Compare.f (k + 1) a b c l a' b' c' l' = _
          rw [gangsawref02_Compare.f, if_pos ha, if_neg hb]
        · simp only [decide_eq_true_eq]
          split <;> simp
    · rw [if_neg ha]
      simp only [orI]
      refine hs _ (decide (a < a')) _ (fun k => ?_) ?_
      · show gangsawref02_Compare.f (k + 1) a b c l a' b' c' l' = _
        rw [gangsawref02_Compare.f, if_neg ha]
      · simp only [decide_eq_true_eq]
        split <;> simp
theorem compareE (x y : S24) (hn : nodes x ≤ 1000000) : Ev (fun k => gangsawref02_Compare.f k x.f0 x.f1 x.f2 x.f3 y.f0 y.f1 y.f2 y.f3) (cmpS (toY x) (toY y)) := cmpE _ x y (Nat.le_refl _) hn
end Go.Proofs.YtcmphojichgfeaaDoor.QC
