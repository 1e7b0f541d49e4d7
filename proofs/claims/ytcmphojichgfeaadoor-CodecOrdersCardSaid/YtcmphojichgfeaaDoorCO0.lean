/- The codec seat: plain law: the order is a total order. -/
import Derived.Test.YtcmphojichgfeaaDoorCD
namespace Go.Proofs.YtcmphojichgfeaaDoor.QC
open Go.RowKit
set_option linter.unusedVariables false
set_option linter.unusedSimpArgs false
/-- What is asked of three values that are compared. -/
def TT (p q r : Int) : Prop := (p ≤ 0 → q ≤ 0 → r ≤ 0 ∧ (r = 0 → p = 0 ∧ q = 0)) ∧ (p = 0 → q = 0 → r = 0)
theorem orTT {p q r p2 q2 r2 : Int} (h : TT p q r) (h2 : TT p2 q2 r2) : TT (orI p p2) (orI q q2) (orI r r2) := by
  obtain ⟨a, b⟩ := h
  obtain ⟨a2, b2⟩ := h2
  unfold orI
  by_cases hp : p = 0
  · by_cases hq : q = 0
    · have hr := b hp hq
      rw [if_pos hp, if_pos hq, if_pos hr]
      exact ⟨a2, b2⟩
    · rw [if_pos hp, if_neg hq]
      refine ⟨fun h1 h3 => ?_, fun _ h => absurd h hq⟩
      obtain ⟨c1, c2⟩ := a (by omega) h3
      have hr : r ≠ 0 := fun h => hq (c2 h).2
      rw [if_neg hr]
      exact ⟨c1, fun h => absurd h hr⟩
  · rw [if_neg hp]
    refine ⟨fun h1 h3 => ?_, fun h => absurd h hp⟩
    have hq : q ≤ 0 := by
      by_cases h0 : q = 0
      · omega
      · rw [if_neg h0] at h3; exact h3
    obtain ⟨c1, c2⟩ := a h1 hq
    have hr : r ≠ 0 := fun h => hp (c2 h).1
    rw [if_neg hr]
    exact ⟨c1, fun h => absurd h hr⟩
theorem orNeg {p q p2 q2 : Int} (h : p = -q) (h2 : p2 = -q2) : orI p p2 = -orI q q2 := by
  unfold orI
  by_cases hq : q = 0
  · rw [if_pos (show p = 0 by omega), if_pos hq, h2]
  · rw [if_neg (show p ≠ 0 by omega), if_neg hq, h]
theorem ciTT (x y z : Int) : TT (Lib.compareInt x y) (Lib.compareInt y z) (Lib.compareInt x z) := by
  unfold TT Lib.compareInt
  split <;> split <;> (try split) <;> (try split) <;> (try split) <;> (try split) <;> constructor <;> intros <;> (try constructor) <;> (try intros) <;> (try constructor) <;> omega
theorem ciNeg (x y : Int) : Lib.compareInt x y = -Lib.compareInt y x := by
  unfold Lib.compareInt
  split <;> split <;> (try split) <;> omega
theorem cb_cons (a b : UInt8) (x y : List UInt8) : Lib.compareBytes (a :: x) (b :: y) = orI (Lib.compareInt (a.toNat : Int) (b.toNat : Int)) (Lib.compareBytes x y) := by
  rw [Lib.compareBytes]
  unfold orI Lib.compareInt
  by_cases h : a < b
  · rw [if_pos h]
    rw [UInt8.lt_iff_toNat_lt] at h
    rw [if_pos (show (a.toNat : Int) < (b.toNat : Int) by omega), if_neg (by decide)]
  · by_cases h' : b < a
    · rw [if_neg h, if_pos h']
      rw [UInt8.lt_iff_toNat_lt] at h h'
      rw [if_neg (show ¬ (a.toNat : Int) < (b.toNat : Int) by omega), if_pos (show (a.toNat : Int) > (b.toNat : Int) by omega), if_neg (by decide)]
    · rw [if_neg h, if_neg h']
      rw [UInt8.lt_iff_toNat_lt] at h h'
      rw [if_neg (show ¬ (a.toNat : Int) < (b.toNat : Int) by omega), if_neg (show ¬ (a.toNat : Int) > (b.toNat : Int) by omega), if_pos rfl]
theorem cbTT : ∀ x y z : List UInt8, TT (Lib.compareBytes x y) (Lib.compareBytes y z) (Lib.compareBytes x z)
  | [], [], [] => by simp [TT, Lib.compareBytes]
  | [], [], _ :: _ => by simp [TT, Lib.compareBytes]
  | [], _ :: _, [] => by simp [TT, Lib.compareBytes]
  | [], _ :: _, _ :: _ => by simp [TT, Lib.compareBytes]
  | _ :: _, [], [] => by simp [TT, Lib.compareBytes]
  | _ :: _, [], _ :: _ => by simp [TT, Lib.compareBytes]
  | _ :: _, _ :: _, [] => by simp [TT, Lib.compareBytes]
  | a :: x, b :: y, c :: z => by rw [cb_cons, cb_cons, cb_cons]; exact orTT (ciTT _ _ _) (cbTT x y z)
theorem cbNeg : ∀ x y : List UInt8, Lib.compareBytes x y = -Lib.compareBytes y x
  | [], [] => rfl
  | [], _ :: _ => rfl
  | _ :: _, [] => rfl
  | a :: x, b :: y => by rw [cb_cons, cb_cons]; exact orNeg (ciNeg _ _) (cbNeg x y)
mutual
theorem cmpTT : ∀ x y z : S32, TT (cmpS x y) (cmpS y z) (cmpS x z)
  | ⟨a, b, c, l⟩, ⟨a', b', c', l'⟩, ⟨a'', b'', c'', l''⟩ => by
    rw [cmpS, cmpS, cmpS]
    exact orTT (ciTT _ _ _) (orTT (ciTT _ _ _) (orTT (cbTT _ _ _) (cmpLTT l l' l'')))
theorem cmpLTT : ∀ x y z : List S32, TT (cmpL x y) (cmpL y z) (cmpL x z)
  | [], [], [] => by simp [TT, cmpL]
  | [], [], _ :: _ => by simp [TT, cmpL]
  | [], _ :: _, [] => by simp [TT, cmpL]
  | [], _ :: _, _ :: _ => by simp [TT, cmpL]
  | _ :: _, [], [] => by simp [TT, cmpL]
  | _ :: _, [], _ :: _ => by simp [TT, cmpL]
  | _ :: _, _ :: _, [] => by simp [TT, cmpL]
  | a :: x, b :: y, c :: z => by rw [cmpL, cmpL, cmpL]; exact orTT (cmpTT a b c) (cmpLTT x y z)
end
mutual
theorem cmpNeg : ∀ x y : S32, cmpS x y = -cmpS y x
  | ⟨a, b, c, l⟩, ⟨a', b', c', l'⟩ => by
    rw [cmpS, cmpS]
    exact orNeg (ciNeg _ _) (orNeg (ciNeg _ _) (orNeg (cbNeg _ _) (cmpLNeg l l')))
theorem cmpLNeg : ∀ x y : List S32, cmpL x y = -cmpL y x
  | [], [] => rfl
  | [], _ :: _ => rfl
  | _ :: _, [] => rfl
  | a :: x, b :: y => by rw [cmpL, cmpL]; exact orNeg (cmpNeg a b) (cmpLNeg x y)
end
theorem cmpSelf (x : S32) : cmpS x x = 0 := by have := cmpNeg x x; omega
theorem cmpTrans {x y z : S32} (h1 : cmpS x y ≤ 0) (h2 : cmpS y z ≤ 0) : cmpS x z ≤ 0 := ((cmpTT x y z).1 h1 h2).1
theorem orRange {p q : Int} (h : -1 ≤ p ∧ p ≤ 1) (h2 : -1 ≤ q ∧ q ≤ 1) : -1 ≤ orI p q ∧ orI p q ≤ 1 := by unfold orI; split <;> omega
theorem ciRange (x y : Int) : -1 ≤ Lib.compareInt x y ∧ Lib.compareInt x y ≤ 1 := by unfold Lib.compareInt; split <;> (try split) <;> omega
theorem cbRange : ∀ x y : List UInt8, -1 ≤ Lib.compareBytes x y ∧ Lib.compareBytes x y ≤ 1
  | [], [] => by decide
  | [], _ :: _ => by simp [Lib.compareBytes]
  | _ :: _, [] => by simp [Lib.compareBytes]
  | a :: x, b :: y => by rw [cb_cons]; exact orRange (ciRange _ _) (cbRange x y)
mutual
theorem cmpRange : ∀ x y : S32, -1 ≤ cmpS x y ∧ cmpS x y ≤ 1
  | ⟨a, b, c, l⟩, ⟨a', b', c', l'⟩ => by rw [cmpS]; exact orRange (ciRange _ _) (orRange (ciRange _ _) (orRange (cbRange _ _) (cmpLRange l l')))
theorem cmpLRange : ∀ x y : List S32, -1 ≤ cmpL x y ∧ cmpL x y ≤ 1
  | [], [] => by simp [cmpL]
  | [], _ :: _ => by simp [cmpL]
  | _ :: _, [] => by simp [cmpL]
  | a :: x, b :: y => by rw [cmpL]; exact orRange (cmpRange a b) (cmpLRange x y)
end
end Go.Proofs.YtcmphojichgfeaaDoor.QC
