/- The plane seat: contracts, the last part. -/
import Derived.Test.YtldnlbfchkdoiaaP4
namespace Go.Proofs.Ytldnlbfchkdoiaa
open Go.Sx
set_option linter.unusedVariables false
set_option linter.unusedSimpArgs false
set_option maxRecDepth 100000

theorem ct {A B : Prop} : cond true A B = A := rfl
theorem cf {A B : Prop} : cond false A B = B := rfl
theorem ch_lst {n lo hi : Int} (h : lo < hi) : mnI (n * lo) (n * (hi - 1)) + mxI 0 n = lst n lo hi := by
  unfold lst
  by_cases hn : 0 < n
  · have m := Int.mul_le_mul_of_nonneg_left (show lo ≤ hi - 1 by omega) (show 0 ≤ n by omega)
    have e : n * (lo + 1) = n * lo + n := by rw [Int.mul_add, Int.mul_one]
    rw [if_pos hn, e]
    unfold mnI mxI
    (repeat' split) <;> omega
  · have m : n * (hi - 1) ≤ n * lo := Int.mul_le_mul_of_nonpos_left (show n ≤ 0 by omega) (show lo ≤ hi - 1 by omega)
    rw [if_neg hn]
    unfold mnI mxI
    (repeat' split) <;> omega
theorem ch_bd {n lo hi : Int} (hn : -1000 ≤ n ∧ n ≤ 1000) (hl : -1000000 ≤ lo ∧ lo ≤ 1000000) (hh : -1000000 ≤ hi ∧ hi ≤ 1000000) :
    mnI (arI .mul .i64 n lo) (arI .mul .i64 n (arI .sub .i64 hi 1)) = mnI (n * lo) (n * (hi - 1)) ∧ -1000001000 ≤ mnI (n * lo) (n * (hi - 1)) ∧ mnI (n * lo) (n * (hi - 1)) ≤ 1000001000 := by
  have m1 := mul_bd (a := n) (b := lo) (A := 1000) (B := 1000001) (by omega) (by omega) (by omega) (by omega)
  have m2 := mul_bd (a := n) (b := hi - 1) (A := 1000) (B := 1000001) (by omega) (by omega) (by omega) (by omega)
  have r := mn_bd m1 m2
  rw [ar_sub (by omega) (by omega), ar_mul (a := n) (b := lo) (by omega) (by omega), ar_mul (a := n) (b := hi - 1) (by omega) (by omega)]
  exact ⟨rfl, by omega, by omega⟩
theorem axis {n lo hi L rest : Int} (hn : -1000 ≤ n ∧ n ≤ 1000) (hl : -1000000 ≤ lo ∧ lo ≤ 1000000) (hh : -1000000 ≤ hi ∧ hi ≤ 1000000) (hlh : lo < hi)
    (hL : L = rest - mxI 0 n) (hr : lst n lo hi ≤ rest) (hR : -20000000000 ≤ rest ∧ rest ≤ 20000000000) :
    (cmpI .lss 0 n = true ∧ flrP L n = true ∧ spn0 n lo hi rest = lo ∧ spn1 n lo hi rest = mnI hi (arI .add .i64 (flr0 L n) 1)) ∨
    (cmpI .lss 0 n = false ∧ cmpI .lss n 0 = true ∧ flrP L (arI .sub .i64 0 n) = true ∧ spn0 n lo hi rest = mxI lo (arI .sub .i64 0 (flr0 L (arI .sub .i64 0 n))) ∧ spn1 n lo hi rest = hi) ∨
    (cmpI .lss 0 n = false ∧ cmpI .lss n 0 = false ∧ spn0 n lo hi rest = lo ∧ spn1 n lo hi rest = hi) := by
  unfold mxI at hL
  unfold lst at hr
  by_cases h1 : 0 < n
  · left
    have e : L = rest - n := by rw [hL, if_pos h1]
    rw [if_pos h1] at hr
    have hP : flrP L n = true := by simp only [flrP, Bool.and_eq_true, decide_eq_true_eq]; omega
    have q := ediv_bd (a := L) (b := n) (B := 100000000000) h1 (by omega) (by omega)
    have f : rest / n = L / n + 1 := by
      have := Int.add_mul_ediv_right L 1 (show n ≠ 0 by omega)
      rw [Int.one_mul] at this
      rw [← this, e]
      congr 1
      omega
    have g : lo + 1 ≤ rest / n := by
      rw [Int.le_ediv_iff_mul_le h1, Int.mul_comm]
      exact hr
    refine ⟨by rw [lss_d]; exact decide_eq_true h1, hP, by unfold spn0; rw [if_neg (by omega)], ?_⟩
    unfold spn1
    rw [if_pos h1]
    simp only [flr0]
    rw [ar_add (by omega) (by omega), ← f]
    unfold mxI mnI
    (repeat' split) <;> omega
  · right
    have e : L = rest := by rw [hL, if_neg (by omega)]; omega
    rw [if_neg h1] at hr
    by_cases h2 : n < 0
    · left
      have a1 : arI .sub .i64 0 n = -n := by rw [ar_sub (by omega) (by omega), Int.zero_sub]
      rw [a1]
      have hP : flrP L (-n) = true := by simp only [flrP, Bool.and_eq_true, decide_eq_true_eq]; omega
      have q := ediv_bd (a := L) (b := -n) (B := 100000000000) (by omega) (by omega) (by omega)
      have g : -hi ≤ rest / (-n) := by
        rw [Int.le_ediv_iff_mul_le (by omega), Int.neg_mul_neg, Int.mul_comm]
        rw [Int.mul_sub, Int.mul_one] at hr
        omega
      refine ⟨by rw [lss_d]; exact decide_eq_false h1, by rw [lss_d]; exact decide_eq_true h2, hP, ?_, by unfold spn1; rw [if_neg h1]⟩
      unfold spn0
      rw [if_pos h2]
      simp only [flr0]
      rw [ar_sub (by omega) (by omega), Int.zero_sub, e]
      unfold mxI mnI
      (repeat' split) <;> omega
    · right
      exact ⟨by rw [lss_d]; exact decide_eq_false h1, by rw [lss_d]; exact decide_eq_false h2, by unfold spn0; rw [if_neg h2], by unfold spn1; rw [if_neg h1]⟩

theorem c23 : CT Try.prog sigs Φ 23 :=
  ct_of [38, 34, 35, 42] [41, 51] noLoop 100 mixed rfl Try.func23 (by kernel_rfl) (forall_cons c38 (forall_cons c34 (forall_cons c35 (forall_cons c42 forall_nil)))) fun l0 hl0 hp => by
    obtain ⟨a, l1, rfl, hl1⟩ := canon_int hl0
    obtain ⟨b, l2, rfl, hl2⟩ := canon_int hl1
    obtain ⟨c, l3, rfl, hl3⟩ := canon_int hl2
    obtain ⟨d, l4, rfl, hl4⟩ := canon_int hl3
    obtain ⟨x0, l5, rfl, hl5⟩ := canon_int hl4
    obtain ⟨y0, l6, rfl, hl6⟩ := canon_int hl5
    obtain ⟨z0, l7, rfl, hl7⟩ := canon_int hl6
    obtain ⟨x1, l8, rfl, hl8⟩ := canon_int hl7
    obtain ⟨y1, l9, rfl, hl9⟩ := canon_int hl8
    obtain ⟨z1, l10, rfl, hl10⟩ := canon_int hl9
    cases canon_nil hl10
    clear hl10 hl9 hl8 hl7 hl6 hl5 hl4 hl3 hl2 hl1 hl0
    show T.holds _ _ _ (resQ Φ fun rs => rs = [.int (hul0 a b c d x0 y0 z0 x1 y1 z1), .int (hul1 a b c d x0 y0 z0 x1 y1 z1), .int (hul2 a b c d x0 y0 z0 x1 y1 z1), .int (hul3 a b c d x0 y0 z0 x1 y1 z1), .int (hul4 a b c d x0 y0 z0 x1 y1 z1), .int (hul5 a b c d x0 y0 z0 x1 y1 z1), .int (hul6 a b c d x0 y0 z0 x1 y1 z1)])
    rw [t23]
    simp only [ck20, fct0, fct1, fct2, prt0, prt1, prt2]
    by_cases h : chk2 a b c d x0 y0 z0 x1 y1 z1 = 0
    · rw [h, T1]
      have hr := okH h
      simp only [inH_iff] at hr
      have hb := okB h
      simp only [inB, Bool.and_eq_true, in3_iff] at hb
      have ho := okO h
      obtain ⟨ha, hbb, hc, hd⟩ := hr
      obtain ⟨⟨hx0, hy0, hz0⟩, hx1, hy1, hz1⟩ := hb
      obtain ⟨ca, ca1, ca2⟩ := ch_bd ha hx0 hx1
      obtain ⟨cb, cb1, cb2⟩ := ch_bd hbb hy0 hy1
      obtain ⟨cc, cc1, cc2⟩ := ch_bd hc hz0 hz1
      rw [ca, cb, cc]
      have la := ch_lst (n := a) ho.1
      have lb := ch_lst (n := b) ho.2.1
      have lc := ch_lst (n := c) ho.2.2
      generalize mnI (a * x0) (a * (x1 - 1)) = u at *
      generalize mnI (b * y0) (b * (y1 - 1)) = v at *
      generalize mnI (c * z0) (c * (z1 - 1)) = w at *
      have xa := mx_bd (a := 0) (b := a) (L := -1000) (U := 1000) (by omega) ha
      have xb := mx_bd (a := 0) (b := b) (L := -1000) (U := 1000) (by omega) hbb
      have xc := mx_bd (a := 0) (b := c) (L := -1000) (U := 1000) (by omega) hc
      have eR : (arI .sub .i64 (arI .sub .i64 (arI .sub .i64 d (mxI 0 a)) (mxI 0 b)) (mxI 0 c)) = d - mxI 0 a - mxI 0 b - mxI 0 c := by
        rw [ar_sub (a := d) (by omega) (by omega), ar_sub (a := d - mxI 0 a) (by omega) (by omega), ar_sub (by omega) (by omega)]
      have eS : arI .add .i64 (arI .add .i64 (arI .add .i64 0 u) v) w = u + v + w := by
        rw [ar_add (a := 0) (by omega) (by omega), Int.zero_add, ar_add (a := u) (by omega) (by omega), ar_add (by omega) (by omega)]
      rw [eR, eS]
      have eA : arI .sub .i64 (d - mxI 0 a - mxI 0 b - mxI 0 c) (arI .sub .i64 (u + v + w) u) = (d - lst b y0 y1 - lst c z0 z1) - mxI 0 a := by
        rw [ar_sub (a := u + v + w) (by omega) (by omega), ar_sub (by omega) (by omega)]; omega
      have eB : arI .sub .i64 (d - mxI 0 a - mxI 0 b - mxI 0 c) (arI .sub .i64 (u + v + w) v) = (d - lst a x0 x1 - lst c z0 z1) - mxI 0 b := by
        rw [ar_sub (a := u + v + w) (by omega) (by omega), ar_sub (by omega) (by omega)]; omega
      have eC : arI .sub .i64 (d - mxI 0 a - mxI 0 b - mxI 0 c) (arI .sub .i64 (u + v + w) w) = (d - lst a x0 x1 - lst b y0 y1) - mxI 0 c := by
        rw [ar_sub (a := u + v + w) (by omega) (by omega), ar_sub (by omega) (by omega)]; omega
      rw [eA, eB, eC]
      by_cases hn : noHull a b c d x0 y0 z0 x1 y1 z1
      · have hs : cmpI .lss (d - mxI 0 a - mxI 0 b - mxI 0 c) (u + v + w) = true := by
          rw [lss_d]
          unfold noHull at hn
          exact decide_eq_true (by omega)
        rw [hs]
        simp [hul0, hul1, hul2, hul3, hul4, hul5, hul6, h, hn]
      · have hs : cmpI .lss (d - mxI 0 a - mxI 0 b - mxI 0 c) (u + v + w) = false := by
          rw [lss_d]
          unfold noHull at hn
          exact decide_eq_false (by omega)
        rw [hs]
        have hn' := hn
        unfold noHull at hn'
        have G0 : hul0 a b c d x0 y0 z0 x1 y1 z1 = spn0 a x0 x1 (d - lst b y0 y1 - lst c z0 z1) := if_pos ⟨h, hn⟩
        have G1 : hul1 a b c d x0 y0 z0 x1 y1 z1 = spn0 b y0 y1 (d - lst a x0 x1 - lst c z0 z1) := if_pos ⟨h, hn⟩
        have G2 : hul2 a b c d x0 y0 z0 x1 y1 z1 = spn0 c z0 z1 (d - lst a x0 x1 - lst b y0 y1) := if_pos ⟨h, hn⟩
        have G3 : hul3 a b c d x0 y0 z0 x1 y1 z1 = spn1 a x0 x1 (d - lst b y0 y1 - lst c z0 z1) := if_pos ⟨h, hn⟩
        have G4 : hul4 a b c d x0 y0 z0 x1 y1 z1 = spn1 b y0 y1 (d - lst a x0 x1 - lst c z0 z1) := if_pos ⟨h, hn⟩
        have G5 : hul5 a b c d x0 y0 z0 x1 y1 z1 = spn1 c z0 z1 (d - lst a x0 x1 - lst b y0 y1) := if_pos ⟨h, hn⟩
        have G6 : hul6 a b c d x0 y0 z0 x1 y1 z1 = 0 := by unfold hul6; rw [if_pos h, if_neg hn]
        rw [G0, G1, G2, G3, G4, G5, G6]
        have A := axis ha hx0 hx1 ho.1 (rfl : (d - lst b y0 y1 - lst c z0 z1) - mxI 0 a = _) (by omega) (by omega)
        have B := axis hbb hy0 hy1 ho.2.1 (rfl : (d - lst a x0 x1 - lst c z0 z1) - mxI 0 b = _) (by omega) (by omega)
        have D := axis hc hz0 hz1 ho.2.2 (rfl : (d - lst a x0 x1 - lst b y0 y1) - mxI 0 c = _) (by omega) (by omega)
        clear eR eS eA eB eC hs G0 G1 G2 G3 G4 G5 G6 la lb lc xa xb xc
        generalize (d - lst b y0 y1 - lst c z0 z1) - mxI 0 a = La at *
        generalize (d - lst a x0 x1 - lst c z0 z1) - mxI 0 b = Lb at *
        generalize (d - lst a x0 x1 - lst b y0 y1) - mxI 0 c = Lc at *
        rcases A with ⟨a1, a2, a3, a4⟩ | ⟨a1, a2, a3, a4, a5⟩ | ⟨a1, a2, a3, a4⟩
        · simp only [a1, a2, a3, a4, ct, cf]
          rcases B with ⟨b1, b2, b3, b4⟩ | ⟨b1, b2, b3, b4, b5⟩ | ⟨b1, b2, b3, b4⟩
          · simp only [b1, b2, b3, b4, ct, cf]
            rcases D with ⟨c1, c2, c3, c4⟩ | ⟨c1, c2, c3, c4, c5⟩ | ⟨c1, c2, c3, c4⟩
            · simp only [c1, c2, c3, c4, ct, cf]
            · simp only [c1, c2, c3, c4, c5, ct, cf]
            · simp only [c1, c2, c3, c4, ct, cf]
          · simp only [b1, b2, b3, b4, b5, ct, cf]
            rcases D with ⟨c1, c2, c3, c4⟩ | ⟨c1, c2, c3, c4, c5⟩ | ⟨c1, c2, c3, c4⟩
            · simp only [c1, c2, c3, c4, ct, cf]
            · simp only [c1, c2, c3, c4, c5, ct, cf]
            · simp only [c1, c2, c3, c4, ct, cf]
          · simp only [b1, b2, b3, b4, ct, cf]
            rcases D with ⟨c1, c2, c3, c4⟩ | ⟨c1, c2, c3, c4, c5⟩ | ⟨c1, c2, c3, c4⟩
            · simp only [c1, c2, c3, c4, ct, cf]
            · simp only [c1, c2, c3, c4, c5, ct, cf]
            · simp only [c1, c2, c3, c4, ct, cf]
        · simp only [a1, a2, a3, a4, a5, ct, cf]
          rcases B with ⟨b1, b2, b3, b4⟩ | ⟨b1, b2, b3, b4, b5⟩ | ⟨b1, b2, b3, b4⟩
          · simp only [b1, b2, b3, b4, ct, cf]
            rcases D with ⟨c1, c2, c3, c4⟩ | ⟨c1, c2, c3, c4, c5⟩ | ⟨c1, c2, c3, c4⟩
            · simp only [c1, c2, c3, c4, ct, cf]
            · simp only [c1, c2, c3, c4, c5, ct, cf]
            · simp only [c1, c2, c3, c4, ct, cf]
          · simp only [b1, b2, b3, b4, b5, ct, cf]
            rcases D with ⟨c1, c2, c3, c4⟩ | ⟨c1, c2, c3, c4, c5⟩ | ⟨c1, c2, c3, c4⟩
            · simp only [c1, c2, c3, c4, ct, cf]
            · simp only [c1, c2, c3, c4, c5, ct, cf]
            · simp only [c1, c2, c3, c4, ct, cf]
          · simp only [b1, b2, b3, b4, ct, cf]
            rcases D with ⟨c1, c2, c3, c4⟩ | ⟨c1, c2, c3, c4, c5⟩ | ⟨c1, c2, c3, c4⟩
            · simp only [c1, c2, c3, c4, ct, cf]
            · simp only [c1, c2, c3, c4, c5, ct, cf]
            · simp only [c1, c2, c3, c4, ct, cf]
        · simp only [a1, a2, a3, a4, ct, cf]
          rcases B with ⟨b1, b2, b3, b4⟩ | ⟨b1, b2, b3, b4, b5⟩ | ⟨b1, b2, b3, b4⟩
          · simp only [b1, b2, b3, b4, ct, cf]
            rcases D with ⟨c1, c2, c3, c4⟩ | ⟨c1, c2, c3, c4, c5⟩ | ⟨c1, c2, c3, c4⟩
            · simp only [c1, c2, c3, c4, ct, cf]
            · simp only [c1, c2, c3, c4, c5, ct, cf]
            · simp only [c1, c2, c3, c4, ct, cf]
          · simp only [b1, b2, b3, b4, b5, ct, cf]
            rcases D with ⟨c1, c2, c3, c4⟩ | ⟨c1, c2, c3, c4, c5⟩ | ⟨c1, c2, c3, c4⟩
            · simp only [c1, c2, c3, c4, ct, cf]
            · simp only [c1, c2, c3, c4, c5, ct, cf]
            · simp only [c1, c2, c3, c4, ct, cf]
          · simp only [b1, b2, b3, b4, ct, cf]
            rcases D with ⟨c1, c2, c3, c4⟩ | ⟨c1, c2, c3, c4, c5⟩ | ⟨c1, c2, c3, c4⟩
            · simp only [c1, c2, c3, c4, ct, cf]
            · simp only [c1, c2, c3, c4, c5, ct, cf]
            · simp only [c1, c2, c3, c4, ct, cf]
    · rw [eql_d, decide_eq_false h]
      simp [hul0, hul1, hul2, hul3, hul4, hul5, hul6, h]

theorem t12  (Q : List Sc → Prop) : (fnT (cfgOf Try.prog sigs [19, 28, 23, 25, 13] [41, 51] noLoop) 12 Try.f12 (bodyOf Try.f12) ⟨[], [b1]⟩ 100).holds Φ [] (resQ Φ Q) =
  (cond (cmpI .eql (sid1 1 0 2 10 0 0 0 4 1 3) 0)
   (cond (cmpI .eql (sid0 1 0 2 10 0 0 0 4 1 3) 1)
    (cond (cmpI .eql (sid1 1 0 2 10 0 0 0 5 1 3) 0)
     (cond (cmpI .eql (sid0 1 0 2 10 0 0 0 5 1 3) 3)
      (cond (cmpI .eql (sid1 1 0 2 10 10 0 0 11 1 1) 0)
       (cond (cmpI .eql (sid0 1 0 2 10 10 0 0 11 1 1) 2)
        (cond (cmpI .eql (nrm4 2 0 4 7) 0)
         (cond ((cmpI .eql (nrm0 2 0 4 7) 1) && ((cmpI .eql (nrm1 2 0 4 7) 0) && ((cmpI .eql (nrm2 2 0 4 7) 2) && (cmpI .eql (nrm3 2 0 4 7) 3))))
          (cond (cmpI .eql (hul6 1 0 2 10 0 0 0 20 1 20) 0)
           (cond ((cmpI .eql (hul0 1 0 2 10 0 0 0 20 1 20) 0) && ((cmpI .eql (hul1 1 0 2 10 0 0 0 20 1 20) 0) && ((cmpI .eql (hul2 1 0 2 10 0 0 0 20 1 20) 0) && ((cmpI .eql (hul3 1 0 2 10 0 0 0 20 1 20) 8) && ((cmpI .eql (hul4 1 0 2 10 0 0 0 20 1 20) 1) && (cmpI .eql (hul5 1 0 2 10 0 0 0 20 1 20) 4))))))
            (cond (cmpI .eql (dpt1 1 0 2 10 0 0 0 4 1 3 1 9) 0)
             (cond (cmpI .eql (dpt0 1 0 2 10 0 0 0 4 1 3 1 9) 9)
              (cond (cmpI .eql (vlu1 1 0 2 10 1 1 1) 0)
               (Q [.bool (cmpI .eql (vlu0 1 0 2 10 1 1 1) (-7))])
               (Q [.bool false]))
              (Q [.bool false]))
             (Q [.bool false]))
            (Q [.bool false]))
           (Q [.bool false]))
          (Q [.bool false]))
         (Q [.bool false]))
        (Q [.bool false]))
       (Q [.bool false]))
      (Q [.bool false]))
     (Q [.bool false]))
    (Q [.bool false]))
   (Q [.bool false])) := by kernel_rfl
theorem c12 : CT Try.prog sigs Φ 12 :=
  ct_of [19, 28, 23, 25, 13] [41, 51] noLoop 100 mixed rfl Try.func12 (by kernel_rfl) (forall_cons c19 (forall_cons c28 (forall_cons c23 (forall_cons c25 (forall_cons c13 forall_nil))))) fun l0 hl0 hp => by

    cases canon_nil hl0
    clear hl0
    show T.holds _ _ _ (resQ Φ fun rs => rs = [.bool awk0])
    rw [t12]
    refine Eq.mp (α := [Sc.bool true] = [Sc.bool true]) ?_ rfl
    kernel_rfl

end Go.Proofs.Ytldnlbfchkdoiaa
