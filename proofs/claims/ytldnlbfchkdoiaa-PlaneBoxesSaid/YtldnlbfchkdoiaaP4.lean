/- The plane seat: contracts, the third part. -/
import Derived.Test.YtldnlbfchkdoiaaP3
namespace Go.Proofs.Ytldnlbfchkdoiaa
open Go.Sx
set_option linter.unusedVariables false
set_option linter.unusedSimpArgs false
set_option maxRecDepth 100000

theorem val_bd {a b c d x y z : Int} (ha : -1000 ≤ a ∧ a ≤ 1000) (hb : -1000 ≤ b ∧ b ≤ 1000) (hc : -1000 ≤ c ∧ c ≤ 1000) (hd : -4000000000 ≤ d ∧ d ≤ 4000000000)
    (hx : -1000000 ≤ x ∧ x ≤ 1000000) (hy : -1000000 ≤ y ∧ y ≤ 1000000) (hz : -1000000 ≤ z ∧ z ≤ 1000000) : -7000000000 ≤ valE a b c d x y z ∧ valE a b c d x y z ≤ 7000000000 := by
  have m1 := mul_bd (a := a) (b := x) (A := 1000) (B := 1000000) (by omega) (by omega) (by omega) (by omega)
  have m2 := mul_bd (a := b) (b := y) (A := 1000) (B := 1000000) (by omega) (by omega) (by omega) (by omega)
  have m3 := mul_bd (a := c) (b := z) (A := 1000) (B := 1000000) (by omega) (by omega) (by omega) (by omega)
  unfold valE
  omega
theorem ext_bd {a b c d x0 y0 z0 x1 y1 z1 : Int} (hH : inH a b c d = true) (hB : inB x0 y0 z0 x1 y1 z1 = true) : (-7000000000 ≤ loE a b c d x0 y0 z0 x1 y1 z1 ∧ loE a b c d x0 y0 z0 x1 y1 z1 ≤ 7000000000) ∧ (-7000000000 ≤ hiE a b c d x0 y0 z0 x1 y1 z1 ∧ hiE a b c d x0 y0 z0 x1 y1 z1 ≤ 7000000000) := by
  simp only [inH_iff] at hH
  simp only [inB, Bool.and_eq_true, in3_iff] at hB
  have m0 := mul_bd (a := a) (b := x0) (A := 1000) (B := 1000000) (by omega) (by omega) (by omega) (by omega)
  have m1 := mul_bd (a := a) (b := x1) (A := 1000) (B := 1000000) (by omega) (by omega) (by omega) (by omega)
  have m2 := mul_bd (a := b) (b := y0) (A := 1000) (B := 1000000) (by omega) (by omega) (by omega) (by omega)
  have m3 := mul_bd (a := b) (b := y1) (A := 1000) (B := 1000000) (by omega) (by omega) (by omega) (by omega)
  have m4 := mul_bd (a := c) (b := z0) (A := 1000) (B := 1000000) (by omega) (by omega) (by omega) (by omega)
  have m5 := mul_bd (a := c) (b := z1) (A := 1000) (B := 1000000) (by omega) (by omega) (by omega) (by omega)
  have n1 := mn_bd m0 m1
  have n2 := mn_bd m2 m3
  have n3 := mn_bd m4 m5
  have k1 := mx_bd m0 m1
  have k2 := mx_bd m2 m3
  have k3' := mx_bd m4 m5
  unfold loE hiE
  omega
theorem slp_bd {a b c d dir : Int} (hH : inH a b c d = true) : -1000 ≤ slp a b c dir ∧ slp a b c dir ≤ 1000 := by
  simp only [inH_iff] at hH
  unfold slp
  repeat' split
  all_goals omega
theorem nonneg_quo {t k : Int} (h1 : 0 ≤ t) (h2 : t ≤ 100000000000) (hk : 0 < k) : arI .quo .i64 t k = t / k := by
  have q := tdiv_bd (x := t) (k := k) (B := 100000000000) (by omega) h2
  have e := Int.tdiv_eq_ediv (a := t) (b := k)
  rw [if_pos (Or.inl h1), Int.add_zero] at e
  rw [ar_quo (by omega) (by omega), e]
theorem okH {a b c d x0 y0 z0 x1 y1 z1 : Int} (h : chk2 a b c d x0 y0 z0 x1 y1 z1 = 0) : inH a b c d = true := (chkH_ok.1 (chk2_ok.1 h).1).1
theorem okB {a b c d x0 y0 z0 x1 y1 z1 : Int} (h : chk2 a b c d x0 y0 z0 x1 y1 z1 = 0) : inB x0 y0 z0 x1 y1 z1 = true := (chkB_ok.1 (chk2_ok.1 h).2).1
theorem okO {a b c d x0 y0 z0 x1 y1 z1 : Int} (h : chk2 a b c d x0 y0 z0 x1 y1 z1 = 0) : x0 < x1 ∧ y0 < y1 ∧ z0 < z1 := (chkB_ok.1 (chk2_ok.1 h).2).2
theorem sub_mul_i64 {n k : Int} (h : -1000 ≤ n ∧ n ≤ 1000) (hk : k = 1 ∨ k = -1) : arI .mul .i64 n k = n * k := by
  rcases hk with rfl | rfl <;> exact ar_mul (by omega) (by omega)
/-- The last step of Depth. -/
theorem dpt_end {s top most : Int} (Q : List Sc → Prop) (h1 : -7000000000 ≤ top) (h2 : top ≤ 0) :
    cond (cmpI .lss 0 s) (cond (!(cmpI .eql s 0)) (Q [.int (mnI most (arI .quo .i64 (arI .sub .i64 0 top) s)), .int 0]) False) (Q [.int most, .int 0]) =
    Q [.int (if s ≤ 0 then most else mnI most ((-top) / s)), .int 0] := by
  rw [ar_sub (by omega) (by omega), Int.zero_sub, lss_d, eql_d]
  by_cases h : 0 < s
  · rw [decide_eq_true h, decide_eq_false (by omega), if_neg (by omega), nonneg_quo (by omega) (by omega) h]
    rfl
  · rw [decide_eq_false h, if_pos (by omega)]
    rfl

theorem c25 : CT Try.prog sigs Φ 25 :=
  ct_of [38, 39, 35] [41, 51] noLoop 100 mixed rfl Try.func25 (by kernel_rfl) (forall_cons c38 (forall_cons c39 (forall_cons c35 forall_nil))) fun l0 hl0 hp => by
    obtain ⟨a, l1, rfl, hl1⟩ := canon_int hl0
    obtain ⟨b, l2, rfl, hl2⟩ := canon_int hl1
    obtain ⟨c, l3, rfl, hl3⟩ := canon_int hl2
    obtain ⟨d, l4, rfl, hl4⟩ := canon_int hl3
    obtain ⟨x0, l5, rfl, hl5⟩ := canon_int hl4
    obtain ⟨y0, l6, rfl, hl6⟩ := canon_int hl5
    obtain ⟨z0, l7, rfl, hl7⟩ := canon_int hl6
    obtain ⟨x1, l8, rfl, hl8⟩ := canon_int hl7
    obtain ⟨y1, l9, rfl, hl9⟩ := canon_int hl8
    obtain ⟨z1, l10, rfl, hl10⟩ := canon_int hl9
    obtain ⟨dir, l11, rfl, hl11⟩ := canon_int hl10
    obtain ⟨most, l12, rfl, hl12⟩ := canon_int hl11
    cases canon_nil hl12
    clear hl12 hl11 hl10 hl9 hl8 hl7 hl6 hl5 hl4 hl3 hl2 hl1 hl0
    show T.holds _ _ _ (resQ Φ fun rs => rs = [.int (dpt0 a b c d x0 y0 z0 x1 y1 z1 dir most), .int (dpt1 a b c d x0 y0 z0 x1 y1 z1 dir most)])
    rw [t25]
    simp only [ck20]
    by_cases h : chk2 a b c d x0 y0 z0 x1 y1 z1 = 0
    · have hP : exsP a b c d x0 y0 z0 x1 y1 z1 = true := by unfold exsP; rw [okH h, okB h]; rfl
      have eb := ext_bd (okH h) (okB h)
      have hr := okH h
      simp only [inH_iff] at hr
      rw [hP, h, T1]
      unfold dpt0 dpt1 dptErr
      rw [if_pos h]
      by_cases e1 : dir < 0
      · rw [lss_d dir, decide_eq_true e1, if_neg (show ¬ (0 ≤ dir ∧ dir ≤ 5 ∧ 0 ≤ most ∧ most ≤ 1000000) by omega)]
        rfl
      rw [lss_d dir, decide_eq_false e1]
      by_cases e2 : 5 < dir
      · rw [lss_d 5, decide_eq_true e2, if_neg (show ¬ (0 ≤ dir ∧ dir ≤ 5 ∧ 0 ≤ most ∧ most ≤ 1000000) by omega)]
        rfl
      rw [lss_d 5, decide_eq_false e2]
      by_cases e3 : most < 0
      · rw [lss_d most, decide_eq_true e3, if_neg (show ¬ (0 ≤ dir ∧ dir ≤ 5 ∧ 0 ≤ most ∧ most ≤ 1000000) by omega)]
        rfl
      rw [lss_d most, decide_eq_false e3]
      by_cases e4 : 1000000 < most
      · rw [lss_d 1000000, decide_eq_true e4, if_neg (show ¬ (0 ≤ dir ∧ dir ≤ 5 ∧ 0 ≤ most ∧ most ≤ 1000000) by omega)]
        rfl
      rw [lss_d 1000000, decide_eq_false e4, if_pos (show 0 ≤ dir ∧ dir ≤ 5 ∧ 0 ≤ most ∧ most ≤ 1000000 by omega)]
      simp only [exs1, fct0, fct1, fct2]
      by_cases e5 : 0 < hiE a b c d x0 y0 z0 x1 y1 z1
      · rw [lss_d 0 (hiE a b c d x0 y0 z0 x1 y1 z1), decide_eq_true e5, if_neg (show ¬ hiE a b c d x0 y0 z0 x1 y1 z1 ≤ 0 by omega)]
        rfl
      rw [lss_d 0 (hiE a b c d x0 y0 z0 x1 y1 z1), decide_eq_false e5, if_pos (show hiE a b c d x0 y0 z0 x1 y1 z1 ≤ 0 by omega)]
      unfold dptE
      have j1 : arI .sub .i64 1 (arI .mul .i64 2 (arI .rem .i64 0 2)) = 1 := by kernel_rfl
      have j2 : arI .sub .i64 1 (arI .mul .i64 2 (arI .rem .i64 1 2)) = -1 := by kernel_rfl
      have j3 : arI .sub .i64 1 (arI .mul .i64 2 (arI .rem .i64 2 2)) = 1 := by kernel_rfl
      have j4 : arI .sub .i64 1 (arI .mul .i64 2 (arI .rem .i64 3 2)) = -1 := by kernel_rfl
      have j5 : arI .sub .i64 1 (arI .mul .i64 2 (arI .rem .i64 4 2)) = 1 := by kernel_rfl
      have j6 : arI .sub .i64 1 (arI .mul .i64 2 (arI .rem .i64 5 2)) = -1 := by kernel_rfl
      have q0 : ∀ n : Int, -1000 ≤ n ∧ n ≤ 1000 → arI .mul .i64 n 1 = n := by intro n hn; rw [ar_mul (by omega) (by omega), Int.mul_one]
      have q1 : ∀ n : Int, -1000 ≤ n ∧ n ≤ 1000 → arI .mul .i64 n (-1) = -n := by intro n hn; rw [ar_mul (by omega) (by omega)]; omega
      have fin : ∀ s : Int, slp a b c dir = s → cond (cmpI .lss 0 s) (cond (!(cmpI .eql s 0)) ([Sc.int (mnI most (arI .quo .i64 (arI .sub .i64 0 (hiE a b c d x0 y0 z0 x1 y1 z1)) s)), .int 0] = [Sc.int (if (0 : Int) = 0 then (if slp a b c dir ≤ 0 then most else mnI most (-hiE a b c d x0 y0 z0 x1 y1 z1 / slp a b c dir)) else 0), .int 0]) False) ([Sc.int most, .int 0] = [Sc.int (if (0 : Int) = 0 then (if slp a b c dir ≤ 0 then most else mnI most (-hiE a b c d x0 y0 z0 x1 y1 z1 / slp a b c dir)) else 0), .int 0]) := by
        intro s hs
        have r := dpt_end (s := s) (top := hiE a b c d x0 y0 z0 x1 y1 z1) (most := most) (fun rs => rs = [Sc.int (if (0 : Int) = 0 then (if slp a b c dir ≤ 0 then most else mnI most (-hiE a b c d x0 y0 z0 x1 y1 z1 / slp a b c dir)) else 0), .int 0]) (by omega) (by omega)
        refine Eq.mpr r ?_
        rw [hs, if_pos rfl]
      rcases six (dir := dir) (by omega) (by omega) with rfl | rfl | rfl | rfl | rfl | rfl
      · rw [j1, q0 a hr.1]
        exact fin a rfl
      · rw [j2, q1 a hr.1]
        exact fin (-a) rfl
      · rw [j3, q0 b hr.2.1]
        exact fin b rfl
      · rw [j4, q1 b hr.2.1]
        exact fin (-b) rfl
      · rw [j5, q0 c hr.2.2.1]
        exact fin c rfl
      · rw [j6, q1 c hr.2.2.1]
        exact fin (-c) rfl
    · have he : dptErr a b c d x0 y0 z0 x1 y1 z1 dir most = chk2 a b c d x0 y0 z0 x1 y1 z1 := if_neg h
      simp only [dpt0, dpt1, he, eql_d]
      simp [h]

end Go.Proofs.Ytldnlbfchkdoiaa
