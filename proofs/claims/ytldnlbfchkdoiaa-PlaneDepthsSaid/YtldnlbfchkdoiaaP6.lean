/- The plane seat: the reference's extremes -/
import Derived.Test.YtldnlbfchkdoiaaP5
namespace Go.Proofs.Ytldnlbfchkdoiaa
open Go.Sx
set_option linter.unusedVariables false
set_option linter.unusedSimpArgs false
set_option maxRecDepth 100000

theorem t21 (a : Int) (b : Int) (c : Int) (d : Int) (x0 : Int) (y0 : Int) (z0 : Int) (x1 : Int) (y1 : Int) (z1 : Int) (Q : List Sc → Prop) : (fnT (cfgOf Try.prog sigs [17] [41, 51] noLoop) 21 Try.f21 (bodyOf Try.f21) ⟨[(iv 4), (iv 6)], [i1, i1]⟩ 100).holds Φ [.int a, .int b, .int c, .int d, .int x0, .int y0, .int z0, .int x1, .int y1, .int z1] (resQ Φ Q) =
  (cond (rValP a b c d x0 y0 z0)
  (cond (rValP a b c d x0 y0 z0)
  (cond (rValP a b c d x1 y0 z0)
  (cond (rValP a b c d x1 y0 z0)
  (cond (rValP a b c d x0 y1 z0)
  (cond (rValP a b c d x0 y1 z0)
  (cond (rValP a b c d x1 y1 z0)
  (cond (rValP a b c d x1 y1 z0)
  (cond (rValP a b c d x0 y0 z1)
  (cond (rValP a b c d x0 y0 z1)
  (cond (rValP a b c d x1 y0 z1)
  (cond (rValP a b c d x1 y0 z1)
  (cond (rValP a b c d x0 y1 z1)
  (cond (rValP a b c d x0 y1 z1)
  (cond (rValP a b c d x1 y1 z1)
  (cond (rValP a b c d x1 y1 z1)
  (Q [.int (mnI (mnI (mnI (mnI (mnI (mnI (mnI (rVal0 a b c d x0 y0 z0) (rVal0 a b c d x1 y0 z0)) (rVal0 a b c d x0 y1 z0)) (rVal0 a b c d x1 y1 z0)) (rVal0 a b c d x0 y0 z1)) (rVal0 a b c d x1 y0 z1)) (rVal0 a b c d x0 y1 z1)) (rVal0 a b c d x1 y1 z1)), .int (mxI (mxI (mxI (mxI (mxI (mxI (mxI (rVal0 a b c d x0 y0 z0) (rVal0 a b c d x1 y0 z0)) (rVal0 a b c d x0 y1 z0)) (rVal0 a b c d x1 y1 z0)) (rVal0 a b c d x0 y0 z1)) (rVal0 a b c d x1 y0 z1)) (rVal0 a b c d x0 y1 z1)) (rVal0 a b c d x1 y1 z1))])
  False)
  False)
  False)
  False)
  False)
  False)
  False)
  False)
  False)
  False)
  False)
  False)
  False)
  False)
  False)
  False) := by kernel_rfl
theorem t22 (a : Int) (b : Int) (c : Int) (d : Int) (x0 : Int) (y0 : Int) (z0 : Int) (x1 : Int) (y1 : Int) (z1 : Int) (Q : List Sc → Prop) : (fnT (cfgOf Try.prog sigs [21] [41, 51] noLoop) 22 Try.f22 (bodyOf Try.f22) ⟨[(iv 4), (iv 6)], [i1]⟩ 100).holds Φ [.int a, .int b, .int c, .int d, .int x0, .int y0, .int z0, .int x1, .int y1, .int z1] (resQ Φ Q) =
  (cond (rExtP a b c d x0 y0 z0 x1 y1 z1)
  (cond (cmpI .lss 0 (rExt1 a b c d x0 y0 z0 x1 y1 z1))
   (cond (cmpI .lss (rExt0 a b c d x0 y0 z0 x1 y1 z1) 0)
    (Q [.int 3])
    (Q [.int 2]))
   (Q [.int 1]))
  False) := by kernel_rfl
theorem mn_asc (a b c : Int) : mnI (mnI a b) c = mnI a (mnI b c) := by
  unfold mnI
  by_cases h1 : b < a <;> by_cases h2 : c < b <;> by_cases h3 : c < a <;> simp only [h1, h2, h3, if_true, if_false] <;> omega
theorem mx_asc (a b c : Int) : mxI (mxI a b) c = mxI a (mxI b c) := by
  unfold mxI
  by_cases h1 : b > a <;> by_cases h2 : c > b <;> by_cases h3 : c > a <;> simp only [h1, h2, h3, if_true, if_false] <;> omega
theorem mn8 (p0 p1 q0 q1 r0 r1 d : Int) : mnI (mnI (mnI (mnI (mnI (mnI (mnI (p0 + q0 + r0 - d) (p1 + q0 + r0 - d)) (p0 + q1 + r0 - d)) (p1 + q1 + r0 - d)) (p0 + q0 + r1 - d)) (p1 + q0 + r1 - d)) (p0 + q1 + r1 - d)) (p1 + q1 + r1 - d) = mnI p0 p1 + mnI q0 q1 + mnI r0 r1 - d := by
  have e1 : ∀ s, mnI (p0 + s - d) (p1 + s - d) = mnI p0 p1 + s - d := fun s => by unfold mnI; split <;> split <;> omega
  have e2 : ∀ P s, mnI (P + (q0 + s) - d) (P + (q1 + s) - d) = P + (mnI q0 q1 + s) - d := fun P s => by unfold mnI; split <;> split <;> omega
  have e3 : ∀ P, mnI (P + r0 - d) (P + r1 - d) = P + mnI r0 r1 - d := fun P => by unfold mnI; split <;> split <;> omega
  simp only [Int.add_assoc]
  rw [mn_asc (mnI (p0 + (q0 + r0) - d) (p1 + (q0 + r0) - d)) (p0 + (q1 + r0) - d) (p1 + (q1 + r0) - d), e1, e1, e2,
    mn_asc _ (p0 + (q0 + r1) - d) (p1 + (q0 + r1) - d), e1, mn_asc _ (p0 + (q1 + r1) - d) (p1 + (q1 + r1) - d), e1, mn_asc, e2]
  rw [← Int.add_assoc, ← Int.add_assoc, e3, Int.add_assoc]
theorem mx8 (p0 p1 q0 q1 r0 r1 d : Int) : mxI (mxI (mxI (mxI (mxI (mxI (mxI (p0 + q0 + r0 - d) (p1 + q0 + r0 - d)) (p0 + q1 + r0 - d)) (p1 + q1 + r0 - d)) (p0 + q0 + r1 - d)) (p1 + q0 + r1 - d)) (p0 + q1 + r1 - d)) (p1 + q1 + r1 - d) = mxI p0 p1 + mxI q0 q1 + mxI r0 r1 - d := by
  have e1 : ∀ s, mxI (p0 + s - d) (p1 + s - d) = mxI p0 p1 + s - d := fun s => by unfold mxI; split <;> split <;> omega
  have e2 : ∀ P s, mxI (P + (q0 + s) - d) (P + (q1 + s) - d) = P + (mxI q0 q1 + s) - d := fun P s => by unfold mxI; split <;> split <;> omega
  have e3 : ∀ P, mxI (P + r0 - d) (P + r1 - d) = P + mxI r0 r1 - d := fun P => by unfold mxI; split <;> split <;> omega
  simp only [Int.add_assoc]
  rw [mx_asc (mxI (p0 + (q0 + r0) - d) (p1 + (q0 + r0) - d)) (p0 + (q1 + r0) - d) (p1 + (q1 + r0) - d), e1, e1, e2,
    mx_asc _ (p0 + (q0 + r1) - d) (p1 + (q0 + r1) - d), e1, mx_asc _ (p0 + (q1 + r1) - d) (p1 + (q1 + r1) - d), e1, mx_asc, e2]
  rw [← Int.add_assoc, ← Int.add_assoc, e3, Int.add_assoc]
theorem lohi_bd {a b c d x0 y0 z0 x1 y1 z1 : Int} (hH : inH a b c d = true) (hB : inB x0 y0 z0 x1 y1 z1 = true) : -100000000000 ≤ hiE a b c d x0 y0 z0 x1 y1 z1 ∧ hiE a b c d x0 y0 z0 x1 y1 z1 ≤ 100000000000 := by
  simp only [inH, inB, in3, inF, inC, inD, Bool.and_eq_true, decide_eq_true_eq] at hH hB
  have m1 := mul_bd (a := a) (b := x0) (A := 1000) (B := 1000000) (by omega) (by omega) (by omega) (by omega)
  have m2 := mul_bd (a := a) (b := x1) (A := 1000) (B := 1000000) (by omega) (by omega) (by omega) (by omega)
  have m3 := mul_bd (a := b) (b := y0) (A := 1000) (B := 1000000) (by omega) (by omega) (by omega) (by omega)
  have m4 := mul_bd (a := b) (b := y1) (A := 1000) (B := 1000000) (by omega) (by omega) (by omega) (by omega)
  have m5 := mul_bd (a := c) (b := z0) (A := 1000) (B := 1000000) (by omega) (by omega) (by omega) (by omega)
  have m6 := mul_bd (a := c) (b := z1) (A := 1000) (B := 1000000) (by omega) (by omega) (by omega) (by omega)
  have n1 := mx_bd (a := a * x0) (b := a * x1) (L := -1000000000) (U := 1000000000) (by omega) (by omega)
  have n2 := mx_bd (a := b * y0) (b := b * y1) (L := -1000000000) (U := 1000000000) (by omega) (by omega)
  have n3 := mx_bd (a := c * z0) (b := c * z1) (L := -1000000000) (U := 1000000000) (by omega) (by omega)
  unfold hiE
  omega

theorem c21 : CT Try.prog sigs Φ 21 :=
  ct_of [17] [41, 51] noLoop 100 mixed rfl Try.func21 (by kernel_rfl) (forall_cons c17 forall_nil) fun l0 hl0 hp => by
    obtain ⟨a, l1, rfl, hl1⟩ := canon_int hl0
    obtain ⟨b, l2, rfl, hl2⟩ := canon_int hl1
    obtain ⟨c, l3, rfl, hl3⟩ := canon_int hl2
    obtain ⟨d, l4, rfl, hl4⟩ := canon_int hl3
    obtain ⟨x0, l5, rfl, hl5⟩ := canon_int hl4
    obtain ⟨y0, l6, rfl, hl6⟩ := canon_int hl5
    obtain ⟨z0, l7, rfl, hl7⟩ := canon_int hl6
    obtain ⟨x1, l8, rfl, hl8⟩ := canon_int hl7
    obtain ⟨y1, l9, rfl, hl9⟩ := canon_int hl8
    obtain ⟨z1, l10, rfl, hl10⟩ := canon_int hl9
    cases canon_nil hl10
    clear hl10 hl9 hl8 hl7 hl6 hl5 hl4 hl3 hl2 hl1 hl0
    have hp : rExtP a b c d x0 y0 z0 x1 y1 z1 = true := hp
    show T.holds _ _ _ (resQ Φ fun rs => rs = [.int (rExt0 a b c d x0 y0 z0 x1 y1 z1), .int (rExt1 a b c d x0 y0 z0 x1 y1 z1)])
    rw [t21]
    simp only [rExtP, inB, Bool.and_eq_true] at hp
    obtain ⟨hH, h0, h1⟩ := hp
    have g : ∀ x y z, (x = x0 ∨ x = x1) → (y = y0 ∨ y = y1) → (z = z0 ∨ z = z1) → rValP a b c d x y z = true := by
      intro x y z hx hy hz
      unfold rValP
      rw [hH]
      simp only [in3, Bool.and_eq_true] at h0 h1 ⊢
      refine ⟨trivial, ⟨?_, ?_⟩, ?_⟩
      · rcases hx with rfl | rfl
        · exact h0.1.1
        · exact h1.1.1
      · rcases hy with rfl | rfl
        · exact h0.1.2
        · exact h1.1.2
      · rcases hz with rfl | rfl
        · exact h0.2
        · exact h1.2
    have l0 : ∀ t : Int, t = t ∨ t = t := fun t => .inl rfl
    rw [g x0 y0 z0 (.inl rfl) (.inl rfl) (.inl rfl), g x1 y0 z0 (.inr rfl) (.inl rfl) (.inl rfl), g x0 y1 z0 (.inl rfl) (.inr rfl) (.inl rfl), g x1 y1 z0 (.inr rfl) (.inr rfl) (.inl rfl),
      g x0 y0 z1 (.inl rfl) (.inl rfl) (.inr rfl), g x1 y0 z1 (.inr rfl) (.inl rfl) (.inr rfl), g x0 y1 z1 (.inl rfl) (.inr rfl) (.inr rfl), g x1 y1 z1 (.inr rfl) (.inr rfl) (.inr rfl)]
    simp only [ct]
    show [Sc.int _, Sc.int _] = [Sc.int (loE a b c d x0 y0 z0 x1 y1 z1), Sc.int (hiE a b c d x0 y0 z0 x1 y1 z1)]
    unfold rVal0 valE loE hiE
    rw [mn8, mx8]

theorem c22 : CT Try.prog sigs Φ 22 :=
  ct_of [21] [41, 51] noLoop 100 mixed rfl Try.func22 (by kernel_rfl) (forall_cons c21 forall_nil) fun l0 hl0 hp => by
    obtain ⟨a, l1, rfl, hl1⟩ := canon_int hl0
    obtain ⟨b, l2, rfl, hl2⟩ := canon_int hl1
    obtain ⟨c, l3, rfl, hl3⟩ := canon_int hl2
    obtain ⟨d, l4, rfl, hl4⟩ := canon_int hl3
    obtain ⟨x0, l5, rfl, hl5⟩ := canon_int hl4
    obtain ⟨y0, l6, rfl, hl6⟩ := canon_int hl5
    obtain ⟨z0, l7, rfl, hl7⟩ := canon_int hl6
    obtain ⟨x1, l8, rfl, hl8⟩ := canon_int hl7
    obtain ⟨y1, l9, rfl, hl9⟩ := canon_int hl8
    obtain ⟨z1, l10, rfl, hl10⟩ := canon_int hl9
    cases canon_nil hl10
    clear hl10 hl9 hl8 hl7 hl6 hl5 hl4 hl3 hl2 hl1 hl0
    have hp : rSidP a b c d x0 y0 z0 x1 y1 z1 = true := hp
    show T.holds _ _ _ (resQ Φ fun rs => rs = [.int (rSid0 a b c d x0 y0 z0 x1 y1 z1)])
    rw [t22]
    have hP : rExtP a b c d x0 y0 z0 x1 y1 z1 = true := hp
    rw [hP, lss_d, lss_d]
    unfold rExt0 rExt1 rSid0 sidE
    by_cases h : hiE a b c d x0 y0 z0 x1 y1 z1 ≤ 0
    · rw [if_pos h, decide_eq_false (by omega)]
      rfl
    · rw [if_neg h, decide_eq_true (by omega)]
      by_cases g : 0 ≤ loE a b c d x0 y0 z0 x1 y1 z1
      · rw [if_pos g, decide_eq_false (by omega)]
        rfl
      · rw [if_neg g, decide_eq_true (by omega)]
        rfl

theorem c26 : CT Try.prog sigs Φ 26 :=
  ct_of [21, 45] [41, 51] noLoop 100 mixed rfl Try.func26 (by kernel_rfl) (forall_cons c21 (forall_cons c45 forall_nil)) fun l0 hl0 hp => by
    obtain ⟨a, l1, rfl, hl1⟩ := canon_int hl0
    obtain ⟨b, l2, rfl, hl2⟩ := canon_int hl1
    obtain ⟨c, l3, rfl, hl3⟩ := canon_int hl2
    obtain ⟨d, l4, rfl, hl4⟩ := canon_int hl3
    obtain ⟨x0, l5, rfl, hl5⟩ := canon_int hl4
    obtain ⟨y0, l6, rfl, hl6⟩ := canon_int hl5
    obtain ⟨z0, l7, rfl, hl7⟩ := canon_int hl6
    obtain ⟨x1, l8, rfl, hl8⟩ := canon_int hl7
    obtain ⟨y1, l9, rfl, hl9⟩ := canon_int hl8
    obtain ⟨z1, l10, rfl, hl10⟩ := canon_int hl9
    obtain ⟨dir, l11, rfl, hl11⟩ := canon_int hl10
    obtain ⟨most, l12, rfl, hl12⟩ := canon_int hl11
    cases canon_nil hl12
    clear hl12 hl11 hl10 hl9 hl8 hl7 hl6 hl5 hl4 hl3 hl2 hl1 hl0
    have hp : rDptP a b c d x0 y0 z0 x1 y1 z1 dir most = true := hp
    show T.holds _ _ _ (resQ Φ fun rs => rs = [.int (rDpt0 a b c d x0 y0 z0 x1 y1 z1 dir most)])
    rw [t26]
    simp only [rDptP, Bool.and_eq_true, decide_eq_true_eq] at hp
    obtain ⟨⟨⟨⟨hH, hB⟩, hd0⟩, hd5⟩, hhi⟩ := hp
    have hP : rExtP a b c d x0 y0 z0 x1 y1 z1 = true := by unfold rExtP; rw [hH, hB]; rfl
    have hS : rslpP a b c d dir = true := by unfold rslpP; rw [hH, decide_eq_true hd0, decide_eq_true hd5]; rfl
    have hb := lohi_bd hH hB
    rw [hP, hS, lss_d, eql_d]
    unfold rDpt0 dptE rslp0 rExt1
    by_cases h : slp a b c dir ≤ 0
    · rw [if_pos h, decide_eq_false (by omega)]
      rfl
    · rw [if_neg h, decide_eq_true (by omega), decide_eq_false (by omega), ar_sub (by omega) (by omega), Int.zero_sub]
      have e : (-hiE a b c d x0 y0 z0 x1 y1 z1).tdiv (slp a b c dir) = (-hiE a b c d x0 y0 z0 x1 y1 z1) / slp a b c dir := Int.tdiv_eq_ediv_of_nonneg (by omega)
      have t := tdiv_bd (x := -hiE a b c d x0 y0 z0 x1 y1 z1) (k := slp a b c dir) (B := 100000000000) (by omega) (by omega)
      rw [ar_quo (by omega) (by omega), e]
      rfl

end Go.Proofs.Ytldnlbfchkdoiaa
