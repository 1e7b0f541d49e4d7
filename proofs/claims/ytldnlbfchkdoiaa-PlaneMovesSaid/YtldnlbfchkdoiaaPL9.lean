/- The plane seat, a box that is moved by the depth lies in the half-space, and one further step does not; for every input, without a condition. -/
import Derived.Test.YtldnlbfchkdoiaaP5
import Derived.Test.YtldnlbfchkdoiaaRows
namespace Go.Proofs.Ytldnlbfchkdoiaa
open Go.Sx
set_option linter.unusedVariables false
set_option linter.unusedSimpArgs false
set_option maxRecDepth 100000
open Go.ChangeShapes Go.WideShapes Go.ChangeAt Go.RowKit
theorem t9 (a : Int) (b : Int) (c : Int) (d : Int) (x0 : Int) (y0 : Int) (z0 : Int) (x1 : Int) (y1 : Int) (z1 : Int) (dir : Int) (most : Int) (Q : List Sc → Prop) : (fnT (cfgOf Try.prog sigs [12, 25, 27, 19] [41, 51] noLoop) 9 Try.f9 (bodyOf Try.f9) ⟨[(iv 4), (iv 6), i1, i1], [b1]⟩ 100).holds Φ [.int a, .int b, .int c, .int d, .int x0, .int y0, .int z0, .int x1, .int y1, .int z1, .int dir, .int most] (resQ Φ Q) =
  (cond awk0
   (cond (cmpI .eql (dpt1 a b c d x0 y0 z0 x1 y1 z1 dir most) 0)
    (cond (cmpI .lss (dpt0 a b c d x0 y0 z0 x1 y1 z1 dir most) 0)
     (Q [.bool false])
     (cond (cmpI .lss most (dpt0 a b c d x0 y0 z0 x1 y1 z1 dir most))
      (Q [.bool false])
      (cond (cmpI .lss dir 0)
       (Q [.bool false])
       (cond (cmpI .lss 5 dir)
        (Q [.bool false])
        (cond (mvdP x0 y0 z0 x1 y1 z1 dir (dpt0 a b c d x0 y0 z0 x1 y1 z1 dir most))
        (cond (cmpI .eql (sid1 a b c d (mvd0 x0 y0 z0 x1 y1 z1 dir (dpt0 a b c d x0 y0 z0 x1 y1 z1 dir most)) (mvd1 x0 y0 z0 x1 y1 z1 dir (dpt0 a b c d x0 y0 z0 x1 y1 z1 dir most)) (mvd2 x0 y0 z0 x1 y1 z1 dir (dpt0 a b c d x0 y0 z0 x1 y1 z1 dir most)) (mvd3 x0 y0 z0 x1 y1 z1 dir (dpt0 a b c d x0 y0 z0 x1 y1 z1 dir most)) (mvd4 x0 y0 z0 x1 y1 z1 dir (dpt0 a b c d x0 y0 z0 x1 y1 z1 dir most)) (mvd5 x0 y0 z0 x1 y1 z1 dir (dpt0 a b c d x0 y0 z0 x1 y1 z1 dir most))) 0)
         (cond (cmpI .eql (sid0 a b c d (mvd0 x0 y0 z0 x1 y1 z1 dir (dpt0 a b c d x0 y0 z0 x1 y1 z1 dir most)) (mvd1 x0 y0 z0 x1 y1 z1 dir (dpt0 a b c d x0 y0 z0 x1 y1 z1 dir most)) (mvd2 x0 y0 z0 x1 y1 z1 dir (dpt0 a b c d x0 y0 z0 x1 y1 z1 dir most)) (mvd3 x0 y0 z0 x1 y1 z1 dir (dpt0 a b c d x0 y0 z0 x1 y1 z1 dir most)) (mvd4 x0 y0 z0 x1 y1 z1 dir (dpt0 a b c d x0 y0 z0 x1 y1 z1 dir most)) (mvd5 x0 y0 z0 x1 y1 z1 dir (dpt0 a b c d x0 y0 z0 x1 y1 z1 dir most))) 1)
          (cond (mvdP x0 y0 z0 x1 y1 z1 dir (arI .add .i64 (dpt0 a b c d x0 y0 z0 x1 y1 z1 dir most) 1))
          (cond (cmpI .eql (dpt0 a b c d x0 y0 z0 x1 y1 z1 dir most) most)
           (Q [.bool true])
           (cond (cmpI .eql (sid1 a b c d (mvd0 x0 y0 z0 x1 y1 z1 dir (arI .add .i64 (dpt0 a b c d x0 y0 z0 x1 y1 z1 dir most) 1)) (mvd1 x0 y0 z0 x1 y1 z1 dir (arI .add .i64 (dpt0 a b c d x0 y0 z0 x1 y1 z1 dir most) 1)) (mvd2 x0 y0 z0 x1 y1 z1 dir (arI .add .i64 (dpt0 a b c d x0 y0 z0 x1 y1 z1 dir most) 1)) (mvd3 x0 y0 z0 x1 y1 z1 dir (arI .add .i64 (dpt0 a b c d x0 y0 z0 x1 y1 z1 dir most) 1)) (mvd4 x0 y0 z0 x1 y1 z1 dir (arI .add .i64 (dpt0 a b c d x0 y0 z0 x1 y1 z1 dir most) 1)) (mvd5 x0 y0 z0 x1 y1 z1 dir (arI .add .i64 (dpt0 a b c d x0 y0 z0 x1 y1 z1 dir most) 1))) 0)
            (Q [.bool (!(cmpI .eql (sid0 a b c d (mvd0 x0 y0 z0 x1 y1 z1 dir (arI .add .i64 (dpt0 a b c d x0 y0 z0 x1 y1 z1 dir most) 1)) (mvd1 x0 y0 z0 x1 y1 z1 dir (arI .add .i64 (dpt0 a b c d x0 y0 z0 x1 y1 z1 dir most) 1)) (mvd2 x0 y0 z0 x1 y1 z1 dir (arI .add .i64 (dpt0 a b c d x0 y0 z0 x1 y1 z1 dir most) 1)) (mvd3 x0 y0 z0 x1 y1 z1 dir (arI .add .i64 (dpt0 a b c d x0 y0 z0 x1 y1 z1 dir most) 1)) (mvd4 x0 y0 z0 x1 y1 z1 dir (arI .add .i64 (dpt0 a b c d x0 y0 z0 x1 y1 z1 dir most) 1)) (mvd5 x0 y0 z0 x1 y1 z1 dir (arI .add .i64 (dpt0 a b c d x0 y0 z0 x1 y1 z1 dir most) 1))) 1))])
            (Q [.bool true])))
          False)
          (Q [.bool false]))
         (cond (mvdP x0 y0 z0 x1 y1 z1 dir (arI .add .i64 (dpt0 a b c d x0 y0 z0 x1 y1 z1 dir most) 1))
         (cond (cmpI .eql (dpt0 a b c d x0 y0 z0 x1 y1 z1 dir most) most)
          (Q [.bool true])
          (cond (cmpI .eql (sid1 a b c d (mvd0 x0 y0 z0 x1 y1 z1 dir (arI .add .i64 (dpt0 a b c d x0 y0 z0 x1 y1 z1 dir most) 1)) (mvd1 x0 y0 z0 x1 y1 z1 dir (arI .add .i64 (dpt0 a b c d x0 y0 z0 x1 y1 z1 dir most) 1)) (mvd2 x0 y0 z0 x1 y1 z1 dir (arI .add .i64 (dpt0 a b c d x0 y0 z0 x1 y1 z1 dir most) 1)) (mvd3 x0 y0 z0 x1 y1 z1 dir (arI .add .i64 (dpt0 a b c d x0 y0 z0 x1 y1 z1 dir most) 1)) (mvd4 x0 y0 z0 x1 y1 z1 dir (arI .add .i64 (dpt0 a b c d x0 y0 z0 x1 y1 z1 dir most) 1)) (mvd5 x0 y0 z0 x1 y1 z1 dir (arI .add .i64 (dpt0 a b c d x0 y0 z0 x1 y1 z1 dir most) 1))) 0)
           (Q [.bool (!(cmpI .eql (sid0 a b c d (mvd0 x0 y0 z0 x1 y1 z1 dir (arI .add .i64 (dpt0 a b c d x0 y0 z0 x1 y1 z1 dir most) 1)) (mvd1 x0 y0 z0 x1 y1 z1 dir (arI .add .i64 (dpt0 a b c d x0 y0 z0 x1 y1 z1 dir most) 1)) (mvd2 x0 y0 z0 x1 y1 z1 dir (arI .add .i64 (dpt0 a b c d x0 y0 z0 x1 y1 z1 dir most) 1)) (mvd3 x0 y0 z0 x1 y1 z1 dir (arI .add .i64 (dpt0 a b c d x0 y0 z0 x1 y1 z1 dir most) 1)) (mvd4 x0 y0 z0 x1 y1 z1 dir (arI .add .i64 (dpt0 a b c d x0 y0 z0 x1 y1 z1 dir most) 1)) (mvd5 x0 y0 z0 x1 y1 z1 dir (arI .add .i64 (dpt0 a b c d x0 y0 z0 x1 y1 z1 dir most) 1))) 1))])
           (Q [.bool true])))
         False))
        False)))))
    (Q [.bool (cmpI .eql (dpt0 a b c d x0 y0 z0 x1 y1 z1 dir most) 0)]))
   (Q [.bool false])) := by kernel_rfl
theorem dpt_ok {a b c d x0 y0 z0 x1 y1 z1 dir most : Int} (h : dptErr a b c d x0 y0 z0 x1 y1 z1 dir most = 0) :
    chk2 a b c d x0 y0 z0 x1 y1 z1 = 0 ∧ 0 ≤ dir ∧ dir ≤ 5 ∧ 0 ≤ most ∧ most ≤ 1000000 ∧ hiE a b c d x0 y0 z0 x1 y1 z1 ≤ 0 := by
  unfold dptErr at h
  by_cases h1 : chk2 a b c d x0 y0 z0 x1 y1 z1 = 0
  · rw [if_pos h1] at h
    by_cases h2 : 0 ≤ dir ∧ dir ≤ 5 ∧ 0 ≤ most ∧ most ≤ 1000000
    · rw [if_pos h2] at h
      by_cases h3 : hiE a b c d x0 y0 z0 x1 y1 z1 ≤ 0
      · exact ⟨h1, h2.1, h2.2.1, h2.2.2.1, h2.2.2.2, h3⟩
      · rw [if_neg h3] at h; omega
    · rw [if_neg h2] at h; omega
  · rw [if_neg h1] at h; exact absurd h h1
theorem dpt_props {a b c d x0 y0 z0 x1 y1 z1 dir most : Int} (hh : hiE a b c d x0 y0 z0 x1 y1 z1 ≤ 0) (hm : 0 ≤ most) :
    0 ≤ dptE a b c d x0 y0 z0 x1 y1 z1 dir most ∧ dptE a b c d x0 y0 z0 x1 y1 z1 dir most ≤ most ∧
    hiE a b c d x0 y0 z0 x1 y1 z1 + slp a b c dir * dptE a b c d x0 y0 z0 x1 y1 z1 dir most ≤ 0 ∧
    (¬ dptE a b c d x0 y0 z0 x1 y1 z1 dir most = most → 0 < hiE a b c d x0 y0 z0 x1 y1 z1 + slp a b c dir * (dptE a b c d x0 y0 z0 x1 y1 z1 dir most + 1)) := by
  unfold dptE
  generalize hiE a b c d x0 y0 z0 x1 y1 z1 = t at *
  generalize slp a b c dir = s
  by_cases hs : s ≤ 0
  · rw [if_pos hs]
    have := Int.mul_nonpos_of_nonpos_of_nonneg hs hm
    exact ⟨hm, by omega, by omega, fun h => absurd rfl h⟩
  · rw [if_neg hs]
    have hp : 0 < s := by omega
    have q1 := Int.ediv_nonneg (show 0 ≤ -t by omega) (show 0 ≤ s by omega)
    have q2 := Int.ediv_mul_le (-t) (show s ≠ 0 by omega)
    have q3 := Int.lt_ediv_add_one_mul_self (-t) hp
    rw [Int.mul_comm] at q2 q3
    generalize hq : (-t) / s = q at *
    unfold mnI
    by_cases h : q < most
    · rw [if_pos h]
      exact ⟨q1, by omega, by omega, fun _ => by omega⟩
    · rw [if_neg h]
      have := Int.mul_le_mul_of_nonneg_left (show most ≤ q by omega) (show 0 ≤ s by omega)
      exact ⟨hm, by omega, by omega, fun h => absurd rfl h⟩
theorem mx_shift (u v k : Int) : mxI (u + k) (v + k) = mxI u v + k := by
  unfold mxI
  (repeat' split) <;> omega
theorem hi_shift (a b c d x0 y0 z0 x1 y1 z1 : Int) {dir n : Int} (h1 : 0 ≤ dir) (h2 : dir ≤ 5) :
    hiE a b c d (mvd0 x0 y0 z0 x1 y1 z1 dir n) (mvd1 x0 y0 z0 x1 y1 z1 dir n) (mvd2 x0 y0 z0 x1 y1 z1 dir n) (mvd3 x0 y0 z0 x1 y1 z1 dir n) (mvd4 x0 y0 z0 x1 y1 z1 dir n) (mvd5 x0 y0 z0 x1 y1 z1 dir n) = hiE a b c d x0 y0 z0 x1 y1 z1 + slp a b c dir * n := by
  unfold hiE mvd0 mvd1 mvd2 mvd3 mvd4 mvd5 slp
  rcases six h1 h2 with rfl | rfl | rfl | rfl | rfl | rfl <;> simp only [if_true, if_false, Int.reduceEq, Int.add_zero, Int.mul_add, mx_shift, Int.mul_neg, Int.neg_mul] <;> omega

theorem l9 : ∀ l, InRange [(iv 4), (iv 6), i1, i1] l → ∀ W, Calls Try.prog 9 (packs [(iv 4), (iv 6), i1, i1] l).toArray W fun e w' => e = .returned (.bool true) ∧ Below W.heap.size W w' :=
  law_of [12, 25, 27, 19] [41, 51] noLoop 100 mixed Try.func9 (by kernel_rfl) (forall_cons c12 (forall_cons c25 (forall_cons c27 (forall_cons c19 forall_nil)))) fun l0 hl0 => by
    obtain ⟨a, l1, rfl, r0, hl1⟩ := range_i64 hl0
    obtain ⟨b, l2, rfl, r1, hl2⟩ := range_i64 hl1
    obtain ⟨c, l3, rfl, r2, hl3⟩ := range_i64 hl2
    obtain ⟨d, l4, rfl, r3, hl4⟩ := range_i64 hl3
    obtain ⟨x0, l5, rfl, r4, hl5⟩ := range_i64 hl4
    obtain ⟨y0, l6, rfl, r5, hl6⟩ := range_i64 hl5
    obtain ⟨z0, l7, rfl, r6, hl7⟩ := range_i64 hl6
    obtain ⟨x1, l8, rfl, r7, hl8⟩ := range_i64 hl7
    obtain ⟨y1, l9, rfl, r8, hl9⟩ := range_i64 hl8
    obtain ⟨z1, l10, rfl, r9, hl10⟩ := range_i64 hl9
    obtain ⟨dir, l11, rfl, r10, hl11⟩ := range_i64 hl10
    obtain ⟨most, l12, rfl, r11, hl12⟩ := range_i64 hl11
    cases range_nil hl12
    clear hl12 hl11 hl10 hl9 hl8 hl7 hl6 hl5 hl4 hl3 hl2 hl1 hl0
    show T.holds _ _ _ (resQ Φ fun rs => rs = [.bool true])
    rw [t9]
    have ha : awk0 = true := rfl
    rw [ha, ct]
    by_cases h : dptErr a b c d x0 y0 z0 x1 y1 z1 dir most = 0
    · obtain ⟨hc, hd1, hd2, hm1, hm2, hh⟩ := dpt_ok h
      have e1 : dpt1 a b c d x0 y0 z0 x1 y1 z1 dir most = 0 := h
      have e0 : dpt0 a b c d x0 y0 z0 x1 y1 z1 dir most = dptE a b c d x0 y0 z0 x1 y1 z1 dir most := if_pos h
      obtain ⟨b1, b2, b3, b4⟩ := dpt_props (a := a) (b := b) (c := c) (d := d) (x0 := x0) (y0 := y0) (z0 := z0) (x1 := x1) (y1 := y1) (z1 := z1) (dir := dir) (most := most) hh hm1
      rw [e1, e0, T1]
      generalize dptE a b c d x0 y0 z0 x1 y1 z1 dir most = n at *
      have hB := okB hc
      have p1 : mvdP x0 y0 z0 x1 y1 z1 dir n = true := by
        simp only [mvdP, Bool.and_eq_true, decide_eq_true_eq]; exact ⟨⟨⟨⟨hB, hd1⟩, hd2⟩, b1⟩, by omega⟩
      have p2 : mvdP x0 y0 z0 x1 y1 z1 dir (n + 1) = true := by
        simp only [mvdP, Bool.and_eq_true, decide_eq_true_eq]; exact ⟨⟨⟨⟨hB, hd1⟩, hd2⟩, by omega⟩, by omega⟩
      rw [ar_add (a := n) (b := 1) (by omega) (by omega), p1, p2, lss_d n 0, decide_eq_false (by omega), cf, lss_d most n, decide_eq_false (by omega), cf, lss_d dir 0, decide_eq_false (by omega), cf, lss_d 5 dir, decide_eq_false (by omega), cf, ct, ct]
      have R : ∀ (A : Prop), A = True → cond (cmpI .eql n most) A (cond (cmpI .eql (sid1 a b c d (mvd0 x0 y0 z0 x1 y1 z1 dir (n + 1)) (mvd1 x0 y0 z0 x1 y1 z1 dir (n + 1)) (mvd2 x0 y0 z0 x1 y1 z1 dir (n + 1)) (mvd3 x0 y0 z0 x1 y1 z1 dir (n + 1)) (mvd4 x0 y0 z0 x1 y1 z1 dir (n + 1)) (mvd5 x0 y0 z0 x1 y1 z1 dir (n + 1))) 0) ([Sc.bool (!(cmpI .eql (sid0 a b c d (mvd0 x0 y0 z0 x1 y1 z1 dir (n + 1)) (mvd1 x0 y0 z0 x1 y1 z1 dir (n + 1)) (mvd2 x0 y0 z0 x1 y1 z1 dir (n + 1)) (mvd3 x0 y0 z0 x1 y1 z1 dir (n + 1)) (mvd4 x0 y0 z0 x1 y1 z1 dir (n + 1)) (mvd5 x0 y0 z0 x1 y1 z1 dir (n + 1))) 1))] = [Sc.bool true]) A) := by
        intro A hA
        subst hA
        by_cases g : n = most
        · rw [eql_d, decide_eq_true g]; trivial
        · rw [eql_d, decide_eq_false g, cf]
          by_cases w : chk2 a b c d (mvd0 x0 y0 z0 x1 y1 z1 dir (n + 1)) (mvd1 x0 y0 z0 x1 y1 z1 dir (n + 1)) (mvd2 x0 y0 z0 x1 y1 z1 dir (n + 1)) (mvd3 x0 y0 z0 x1 y1 z1 dir (n + 1)) (mvd4 x0 y0 z0 x1 y1 z1 dir (n + 1)) (mvd5 x0 y0 z0 x1 y1 z1 dir (n + 1)) = 0
          · have s1 : sid1 a b c d (mvd0 x0 y0 z0 x1 y1 z1 dir (n + 1)) (mvd1 x0 y0 z0 x1 y1 z1 dir (n + 1)) (mvd2 x0 y0 z0 x1 y1 z1 dir (n + 1)) (mvd3 x0 y0 z0 x1 y1 z1 dir (n + 1)) (mvd4 x0 y0 z0 x1 y1 z1 dir (n + 1)) (mvd5 x0 y0 z0 x1 y1 z1 dir (n + 1)) = 0 := w
            have s0 : sid0 a b c d (mvd0 x0 y0 z0 x1 y1 z1 dir (n + 1)) (mvd1 x0 y0 z0 x1 y1 z1 dir (n + 1)) (mvd2 x0 y0 z0 x1 y1 z1 dir (n + 1)) (mvd3 x0 y0 z0 x1 y1 z1 dir (n + 1)) (mvd4 x0 y0 z0 x1 y1 z1 dir (n + 1)) (mvd5 x0 y0 z0 x1 y1 z1 dir (n + 1)) = sidE (loE a b c d (mvd0 x0 y0 z0 x1 y1 z1 dir (n + 1)) (mvd1 x0 y0 z0 x1 y1 z1 dir (n + 1)) (mvd2 x0 y0 z0 x1 y1 z1 dir (n + 1)) (mvd3 x0 y0 z0 x1 y1 z1 dir (n + 1)) (mvd4 x0 y0 z0 x1 y1 z1 dir (n + 1)) (mvd5 x0 y0 z0 x1 y1 z1 dir (n + 1))) (hiE a b c d (mvd0 x0 y0 z0 x1 y1 z1 dir (n + 1)) (mvd1 x0 y0 z0 x1 y1 z1 dir (n + 1)) (mvd2 x0 y0 z0 x1 y1 z1 dir (n + 1)) (mvd3 x0 y0 z0 x1 y1 z1 dir (n + 1)) (mvd4 x0 y0 z0 x1 y1 z1 dir (n + 1)) (mvd5 x0 y0 z0 x1 y1 z1 dir (n + 1))) := if_pos w
            have hi' := hi_shift a b c d x0 y0 z0 x1 y1 z1 (n := n + 1) hd1 hd2
            have q := b4 g
            rw [s1, s0, T1, hi']
            have ne : ¬ sidE (loE a b c d (mvd0 x0 y0 z0 x1 y1 z1 dir (n + 1)) (mvd1 x0 y0 z0 x1 y1 z1 dir (n + 1)) (mvd2 x0 y0 z0 x1 y1 z1 dir (n + 1)) (mvd3 x0 y0 z0 x1 y1 z1 dir (n + 1)) (mvd4 x0 y0 z0 x1 y1 z1 dir (n + 1)) (mvd5 x0 y0 z0 x1 y1 z1 dir (n + 1))) (hiE a b c d x0 y0 z0 x1 y1 z1 + slp a b c dir * (n + 1)) = 1 := by
              unfold sidE
              rw [if_neg (by omega)]
              split <;> omega
            rw [eql_d, decide_eq_false ne]
            rfl
          · have s1 : ¬ sid1 a b c d (mvd0 x0 y0 z0 x1 y1 z1 dir (n + 1)) (mvd1 x0 y0 z0 x1 y1 z1 dir (n + 1)) (mvd2 x0 y0 z0 x1 y1 z1 dir (n + 1)) (mvd3 x0 y0 z0 x1 y1 z1 dir (n + 1)) (mvd4 x0 y0 z0 x1 y1 z1 dir (n + 1)) (mvd5 x0 y0 z0 x1 y1 z1 dir (n + 1)) = 0 := w
            rw [eql_d, decide_eq_false s1]
            trivial
      by_cases w : chk2 a b c d (mvd0 x0 y0 z0 x1 y1 z1 dir n) (mvd1 x0 y0 z0 x1 y1 z1 dir n) (mvd2 x0 y0 z0 x1 y1 z1 dir n) (mvd3 x0 y0 z0 x1 y1 z1 dir n) (mvd4 x0 y0 z0 x1 y1 z1 dir n) (mvd5 x0 y0 z0 x1 y1 z1 dir n) = 0
      · have s1 : sid1 a b c d (mvd0 x0 y0 z0 x1 y1 z1 dir n) (mvd1 x0 y0 z0 x1 y1 z1 dir n) (mvd2 x0 y0 z0 x1 y1 z1 dir n) (mvd3 x0 y0 z0 x1 y1 z1 dir n) (mvd4 x0 y0 z0 x1 y1 z1 dir n) (mvd5 x0 y0 z0 x1 y1 z1 dir n) = 0 := w
        have s0 : sid0 a b c d (mvd0 x0 y0 z0 x1 y1 z1 dir n) (mvd1 x0 y0 z0 x1 y1 z1 dir n) (mvd2 x0 y0 z0 x1 y1 z1 dir n) (mvd3 x0 y0 z0 x1 y1 z1 dir n) (mvd4 x0 y0 z0 x1 y1 z1 dir n) (mvd5 x0 y0 z0 x1 y1 z1 dir n) = 1 := by
          have := hi_shift a b c d x0 y0 z0 x1 y1 z1 (n := n) hd1 hd2
          unfold sid0
          rw [if_pos w, this]
          unfold sidE
          rw [if_pos b3]
        rw [s1, s0, T1, T1]
        exact R _ (by simp)
      · have s1 : ¬ sid1 a b c d (mvd0 x0 y0 z0 x1 y1 z1 dir n) (mvd1 x0 y0 z0 x1 y1 z1 dir n) (mvd2 x0 y0 z0 x1 y1 z1 dir n) (mvd3 x0 y0 z0 x1 y1 z1 dir n) (mvd4 x0 y0 z0 x1 y1 z1 dir n) (mvd5 x0 y0 z0 x1 y1 z1 dir n) = 0 := w
        rw [eql_d (sid1 a b c d (mvd0 x0 y0 z0 x1 y1 z1 dir n) (mvd1 x0 y0 z0 x1 y1 z1 dir n) (mvd2 x0 y0 z0 x1 y1 z1 dir n) (mvd3 x0 y0 z0 x1 y1 z1 dir n) (mvd4 x0 y0 z0 x1 y1 z1 dir n) (mvd5 x0 y0 z0 x1 y1 z1 dir n)), decide_eq_false s1, cf]
        exact R _ (by simp)
    · have e1 : ¬ dpt1 a b c d x0 y0 z0 x1 y1 z1 dir most = 0 := h
      have e0 : dpt0 a b c d x0 y0 z0 x1 y1 z1 dir most = 0 := if_neg h
      rw [eql_d, decide_eq_false e1, e0]
      rfl
theorem own : ownKnob Try.prog.godebug = none := by kernel_rfl
theorem laidOut : laidOutB Try.prog = true := by kernel_rfl
theorem planeMoves_lifted (os : Os) (started : os.Started) (H : Type) (enc : TypeId × Value → H) :
    ReturnsInHanded {} Try.checked os 9 .any (Rows.planeMovesSpec.pre6 enc Try.prog Try.f9 Rows.planeMovesRow.domain false) (Rows.planeMovesSpec.post enc Try.prog Try.f9 false true false false) :=
  law_lifted (A := Try.checked) (rt := Try.f9.resultTypes[0]!) own laidOut started Try.func9 (by kernel_rfl) rfl (ss := [(iv 4), (iv 6), i1, i1]) (by kernel_rfl) (by kernel_rfl) rfl (by kernel_rfl)
    (fun ds hl => by
        match ds, hl with
        | [d1, d2, d3, d4], _ => exact ⟨rfl, rfl, rfl⟩)
    (ChangeSpec.witness6 (enc := enc) (C := Try.checked) false ⟨#[], #[.agg #[.int .i64 0, .int .i64 0, .int .i64 0, .int .i64 0], .agg #[.int .i64 0, .int .i64 0, .int .i64 0, .int .i64 0, .int .i64 0, .int .i64 0], .int .i64 0, .int .i64 0], []⟩ 8 (by kernel_rfl) (by kernel_rfl) (by kernel_rfl) (by kernel_rfl))
    l9
/-- The statement: a box that is moved by the depth lies in the half-space, and one further step does not. -/
theorem planeMoves_holds : Rows.PlaneMovesSaid :=
  OpenClaim.holds_of_wide 9 Try.f9 rfl rfl rfl rfl rfl rfl rfl ⟨rfl, rfl, rfl, rfl, rfl⟩ rfl rfl rfl rfl rfl (by kernel_rfl) Try.func9 (by kernel_rfl)
    (of_decide_eq_true (by kernel_rfl)) (by unfold Func.isWrapper; rw [if_neg (of_decide_eq_false (by kernel_rfl))]; exact ⟨rfl, rfl⟩)
    (fun os started H enc _ => planeMoves_lifted os started H enc)
end Go.Proofs.Ytldnlbfchkdoiaa
