/- The plane seat, a point lies in a half-space exactly if it lies in its normal form, which is its own normal form; for every input, without a condition. -/
import Derived.Test.YtldnlbfchkdoiaaP5
import Derived.Test.YtldnlbfchkdoiaaRows
namespace Go.Proofs.Ytldnlbfchkdoiaa
open Go.Sx
set_option linter.unusedVariables false
set_option linter.unusedSimpArgs false
set_option maxRecDepth 100000
open Go.ChangeShapes Go.WideShapes Go.ChangeAt Go.RowKit
theorem t11 (a : Int) (b : Int) (c : Int) (d : Int) (e : Int) (f : Int) (g : Int) (h : Int) (x : Int) (y : Int) (z : Int) (Q : List Sc → Prop) : (fnT (cfgOf Try.prog sigs [12, 28, 13, 30, 29] [41, 51] noLoop) 11 Try.f11 (bodyOf Try.f11) ⟨[(iv 4), (iv 4), (iv 3)], [b1]⟩ 100).holds Φ [.int a, .int b, .int c, .int d, .int e, .int f, .int g, .int h, .int x, .int y, .int z] (resQ Φ Q) =
  (cond awk0
   (cond (cmpI .eql (nrm4 a b c d) 0)
    (cond (cmpI .eql (nrm4 (nrm0 a b c d) (nrm1 a b c d) (nrm2 a b c d) (nrm3 a b c d)) 0)
     (cond ((cmpI .eql (nrm0 (nrm0 a b c d) (nrm1 a b c d) (nrm2 a b c d) (nrm3 a b c d)) (nrm0 a b c d)) && ((cmpI .eql (nrm1 (nrm0 a b c d) (nrm1 a b c d) (nrm2 a b c d) (nrm3 a b c d)) (nrm1 a b c d)) && ((cmpI .eql (nrm2 (nrm0 a b c d) (nrm1 a b c d) (nrm2 a b c d) (nrm3 a b c d)) (nrm2 a b c d)) && (cmpI .eql (nrm3 (nrm0 a b c d) (nrm1 a b c d) (nrm2 a b c d) (nrm3 a b c d)) (nrm3 a b c d)))))
      (cond (cmpI .eql (vlu1 a b c d x y z) (vlu1 (nrm0 a b c d) (nrm1 a b c d) (nrm2 a b c d) (nrm3 a b c d) x y z))
       (cond (cmpI .eql (vlu1 a b c d x y z) 0)
        (cond ((!(cmpI .lss 0 (vlu0 a b c d x y z))) == (!(cmpI .lss 0 (vlu0 (nrm0 a b c d) (nrm1 a b c d) (nrm2 a b c d) (nrm3 a b c d) x y z))))
         (cond (cmpI .eql (wth1 a b c d e f g h) 0)
          (cond (cmpI .eql (vlu1 e f g h x y z) 0)
           (cond (cmpI .eql (wth1 e f g h a b c d) 0)
            (cond (cmpI .eql (eql1 a b c d e f g h) 0)
             (cond (wth0 a b c d e f g h)
              (cond ((eql0 a b c d e f g h) == (wth0 e f g h a b c d))
               (cond (wth0 a b c d e f g h)
                (cond (cmpI .lss 0 (vlu0 a b c d x y z))
                 (Q [.bool true])
                 (Q [.bool (!(cmpI .lss 0 (vlu0 e f g h x y z)))]))
                (Q [.bool true]))
               (Q [.bool false]))
              (cond (eql0 a b c d e f g h)
               (Q [.bool false])
               (cond (wth0 a b c d e f g h)
                (cond (cmpI .lss 0 (vlu0 a b c d x y z))
                 (Q [.bool true])
                 (Q [.bool (!(cmpI .lss 0 (vlu0 e f g h x y z)))]))
                (Q [.bool true]))))
             (Q [.bool false]))
            (Q [.bool false]))
           (Q [.bool true]))
          (Q [.bool true]))
         (Q [.bool false]))
        (cond (cmpI .eql (wth1 a b c d e f g h) 0)
         (cond (cmpI .eql (vlu1 e f g h x y z) 0)
          (cond (cmpI .eql (wth1 e f g h a b c d) 0)
           (cond (cmpI .eql (eql1 a b c d e f g h) 0)
            (cond (wth0 a b c d e f g h)
             (cond ((eql0 a b c d e f g h) == (wth0 e f g h a b c d))
              (cond (wth0 a b c d e f g h)
               (cond (cmpI .lss 0 (vlu0 a b c d x y z))
                (Q [.bool true])
                (Q [.bool (!(cmpI .lss 0 (vlu0 e f g h x y z)))]))
               (Q [.bool true]))
              (Q [.bool false]))
             (cond (eql0 a b c d e f g h)
              (Q [.bool false])
              (cond (wth0 a b c d e f g h)
               (cond (cmpI .lss 0 (vlu0 a b c d x y z))
                (Q [.bool true])
                (Q [.bool (!(cmpI .lss 0 (vlu0 e f g h x y z)))]))
               (Q [.bool true]))))
            (Q [.bool false]))
           (Q [.bool false]))
          (Q [.bool true]))
         (Q [.bool true])))
       (Q [.bool false]))
      (Q [.bool false]))
     (Q [.bool false]))
    (Q [.bool ((cmpI .eql (nrm0 a b c d) 0) && ((cmpI .eql (nrm1 a b c d) 0) && ((cmpI .eql (nrm2 a b c d) 0) && (cmpI .eql (nrm3 a b c d) 0))))]))
   (Q [.bool false])) := by kernel_rfl
theorem k3_dvd (x y z : Int) : k3 x y z ∣ x ∧ k3 x y z ∣ y ∧ k3 x y z ∣ z :=
  ⟨Int.ofNat_dvd_left.2 (Nat.dvd_trans (Nat.gcd_dvd_left _ _) (Nat.gcd_dvd_left _ _)), Int.ofNat_dvd_left.2 (Nat.dvd_trans (Nat.gcd_dvd_left _ _) (Nat.gcd_dvd_right _ _)), Int.ofNat_dvd_left.2 (Nat.gcd_dvd_right _ _)⟩
theorem k3_one {x y z : Int} (hk : 1 ≤ k3 x y z) : k3 (x.tdiv (k3 x y z)) (y.tdiv (k3 x y z)) (z.tdiv (k3 x y z)) = 1 := by
  have e : (k3 x y z).natAbs = Nat.gcd (Nat.gcd x.natAbs y.natAbs) z.natAbs := rfl
  have hp : 0 < Nat.gcd (Nat.gcd x.natAbs y.natAbs) z.natAbs := by omega
  have d1 : Nat.gcd (Nat.gcd x.natAbs y.natAbs) z.natAbs ∣ x.natAbs := Nat.dvd_trans (Nat.gcd_dvd_left _ _) (Nat.gcd_dvd_left _ _)
  have d2 : Nat.gcd (Nat.gcd x.natAbs y.natAbs) z.natAbs ∣ y.natAbs := Nat.dvd_trans (Nat.gcd_dvd_left _ _) (Nat.gcd_dvd_right _ _)
  have d3 : Nat.gcd (Nat.gcd x.natAbs y.natAbs) z.natAbs ∣ z.natAbs := Nat.gcd_dvd_right _ _
  have key : Nat.gcd (Nat.gcd (x.tdiv (k3 x y z)).natAbs (y.tdiv (k3 x y z)).natAbs) (z.tdiv (k3 x y z)).natAbs = 1 := by
    rw [Int.natAbs_tdiv, Int.natAbs_tdiv, Int.natAbs_tdiv, e]
    show Nat.gcd (Nat.gcd (x.natAbs / Nat.gcd (Nat.gcd x.natAbs y.natAbs) z.natAbs) (y.natAbs / Nat.gcd (Nat.gcd x.natAbs y.natAbs) z.natAbs)) (z.natAbs / Nat.gcd (Nat.gcd x.natAbs y.natAbs) z.natAbs) = 1
    rw [Nat.gcd_div d1 d2, Nat.gcd_div (Nat.gcd_dvd_left _ _) d3, Nat.div_self hp]
  exact congrArg (Nat.cast : Nat → Int) key
theorem ediv_near {d k : Int} (hk : 1 ≤ k) (h1 : -4000000000 ≤ d) (h2 : d ≤ 4000000000) : -4000000000 ≤ d / k ∧ d / k ≤ 4000000000 := by
  constructor
  · rw [Int.le_ediv_iff_mul_le (by omega)]
    have := Int.mul_le_mul_of_nonpos_left (show (-4000000000 : Int) ≤ 0 by omega) hk
    omega
  · have q := ediv_bd (a := d) (b := k) (B := 4000000000) (by omega) h1 h2
    exact q.2
theorem norm_ok {a b c d : Int} (u : chkH a b c d = 0) : chkH (a.tdiv (k3 a b c)) (b.tdiv (k3 a b c)) (c.tdiv (k3 a b c)) (d / k3 a b c) = 0 ∧ k3 (a.tdiv (k3 a b c)) (b.tdiv (k3 a b c)) (c.tdiv (k3 a b c)) = 1 := by
  have hk := kH u
  have h := chkH_ok.1 u
  have hr := h.1
  simp only [inH_iff] at hr
  obtain ⟨d1, d2, d3⟩ := k3_dvd a b c
  have m1 := Int.mul_tdiv_cancel' d1
  have m2 := Int.mul_tdiv_cancel' d2
  have m3 := Int.mul_tdiv_cancel' d3
  have b1 := tdiv_bd (x := a) (k := k3 a b c) (B := 1000) hr.1.1 hr.1.2
  have b2 := tdiv_bd (x := b) (k := k3 a b c) (B := 1000) hr.2.1.1 hr.2.1.2
  have b3 := tdiv_bd (x := c) (k := k3 a b c) (B := 1000) hr.2.2.1.1 hr.2.2.1.2
  have b4 := ediv_near hk.1 hr.2.2.2.1 hr.2.2.2.2
  refine ⟨chkH_ok.2 ⟨?_, ?_⟩, k3_one hk.1⟩
  · simp only [inH_iff]
    exact ⟨b1, b2, b3, b4⟩
  · intro z
    rw [z.1, Int.mul_zero] at m1
    rw [z.2.1, Int.mul_zero] at m2
    rw [z.2.2, Int.mul_zero] at m3
    exact h.2 ⟨m1.symm, m2.symm, m3.symm⟩
theorem val_le {a b c d x y z : Int} (u : chkH a b c d = 0) : valE a b c d x y z ≤ 0 ↔ a.tdiv (k3 a b c) * x + b.tdiv (k3 a b c) * y + c.tdiv (k3 a b c) * z ≤ d / k3 a b c := by
  have hk := kH u
  obtain ⟨d1, d2, d3⟩ := k3_dvd a b c
  have m1 := Int.mul_tdiv_cancel' d1
  have m2 := Int.mul_tdiv_cancel' d2
  have m3 := Int.mul_tdiv_cancel' d3
  rw [Int.le_ediv_iff_mul_le (by omega)]
  generalize a.tdiv (k3 a b c) = p at *
  generalize b.tdiv (k3 a b c) = q at *
  generalize c.tdiv (k3 a b c) = r at *
  generalize k3 a b c = k at *
  subst m1
  subst m2
  subst m3
  have e : (p * x + q * y + r * z) * k = k * p * x + k * q * y + k * r * z := by
    rw [Int.mul_comm, Int.mul_add, Int.mul_add, Int.mul_assoc, Int.mul_assoc, Int.mul_assoc]
  rw [e]
  unfold valE
  omega

theorem l11 : ∀ l, InRange [(iv 4), (iv 4), (iv 3)] l → ∀ W, Calls Try.prog 11 (packs [(iv 4), (iv 4), (iv 3)] l).toArray W fun e w' => e = .returned (.bool true) ∧ Below W.heap.size W w' :=
  law_of [12, 28, 13, 30, 29] [41, 51] noLoop 100 mixed Try.func11 (by kernel_rfl) (forall_cons c12 (forall_cons c28 (forall_cons c13 (forall_cons c30 (forall_cons c29 forall_nil))))) fun l0 hl0 => by
    obtain ⟨a, l1, rfl, r0, hl1⟩ := range_i64 hl0
    obtain ⟨b, l2, rfl, r1, hl2⟩ := range_i64 hl1
    obtain ⟨c, l3, rfl, r2, hl3⟩ := range_i64 hl2
    obtain ⟨d, l4, rfl, r3, hl4⟩ := range_i64 hl3
    obtain ⟨e, l5, rfl, r4, hl5⟩ := range_i64 hl4
    obtain ⟨f, l6, rfl, r5, hl6⟩ := range_i64 hl5
    obtain ⟨g, l7, rfl, r6, hl7⟩ := range_i64 hl6
    obtain ⟨h, l8, rfl, r7, hl8⟩ := range_i64 hl7
    obtain ⟨x, l9, rfl, r8, hl9⟩ := range_i64 hl8
    obtain ⟨y, l10, rfl, r9, hl10⟩ := range_i64 hl9
    obtain ⟨z, l11, rfl, r10, hl11⟩ := range_i64 hl10
    cases range_nil hl11
    clear hl11 hl10 hl9 hl8 hl7 hl6 hl5 hl4 hl3 hl2 hl1 hl0
    show T.holds _ _ _ (resQ Φ fun rs => rs = [.bool true])
    rw [t11]
    have ha : awk0 = true := rfl
    rw [ha, ct]
    by_cases u : chkH a b c d = 0
    · obtain ⟨nC, nK⟩ := norm_ok u
      have e0 : nrm0 a b c d = a.tdiv (k3 a b c) := if_pos u
      have e1 : nrm1 a b c d = b.tdiv (k3 a b c) := if_pos u
      have e2 : nrm2 a b c d = c.tdiv (k3 a b c) := if_pos u
      have e3 : nrm3 a b c d = d / k3 a b c := if_pos u
      have e4 : nrm4 a b c d = 0 := u
      have f4 : nrm4 (a.tdiv (k3 a b c)) (b.tdiv (k3 a b c)) (c.tdiv (k3 a b c)) (d / k3 a b c) = 0 := nC
      have f0 : nrm0 (a.tdiv (k3 a b c)) (b.tdiv (k3 a b c)) (c.tdiv (k3 a b c)) (d / k3 a b c) = a.tdiv (k3 a b c) := by unfold nrm0; rw [if_pos nC, nK, Int.tdiv_one]
      have f1 : nrm1 (a.tdiv (k3 a b c)) (b.tdiv (k3 a b c)) (c.tdiv (k3 a b c)) (d / k3 a b c) = b.tdiv (k3 a b c) := by unfold nrm1; rw [if_pos nC, nK, Int.tdiv_one]
      have f2 : nrm2 (a.tdiv (k3 a b c)) (b.tdiv (k3 a b c)) (c.tdiv (k3 a b c)) (d / k3 a b c) = c.tdiv (k3 a b c) := by unfold nrm2; rw [if_pos nC, nK, Int.tdiv_one]
      have f3 : nrm3 (a.tdiv (k3 a b c)) (b.tdiv (k3 a b c)) (c.tdiv (k3 a b c)) (d / k3 a b c) = d / k3 a b c := by unfold nrm3; rw [if_pos nC, nK, Int.ediv_one]
      have EQ : ∀ p q r s : Int, (cmpI .eql p p && (cmpI .eql q q && (cmpI .eql r r && cmpI .eql s s))) = true := by intro p q r s; simp [eql_d]
      rw [e0, e1, e2, e3, e4, T1, f4, T1, f0, f1, f2, f3, EQ, ct]
      have g1 : vlu1 (a.tdiv (k3 a b c)) (b.tdiv (k3 a b c)) (c.tdiv (k3 a b c)) (d / k3 a b c) x y z = vlu1 a b c d x y z := by unfold vlu1; rw [if_pos nC, if_pos u]
      rw [g1, T1]
      by_cases gi : in3 x y z = true
      · have v1 : vlu1 a b c d x y z = 0 := by unfold vlu1; rw [if_pos u, if_pos gi]
        have v0 : vlu0 a b c d x y z = valE a b c d x y z := if_pos ⟨u, gi⟩
        have w0 : vlu0 (a.tdiv (k3 a b c)) (b.tdiv (k3 a b c)) (c.tdiv (k3 a b c)) (d / k3 a b c) x y z = valE (a.tdiv (k3 a b c)) (b.tdiv (k3 a b c)) (c.tdiv (k3 a b c)) (d / k3 a b c) x y z := if_pos ⟨nC, gi⟩
        have L1 := val_le (x := x) (y := y) (z := z) u
        have L2 : valE (a.tdiv (k3 a b c)) (b.tdiv (k3 a b c)) (c.tdiv (k3 a b c)) (d / k3 a b c) x y z ≤ 0 ↔ a.tdiv (k3 a b c) * x + b.tdiv (k3 a b c) * y + c.tdiv (k3 a b c) * z ≤ d / k3 a b c := by unfold valE; omega
        have M : ((!(cmpI .lss 0 (vlu0 a b c d x y z))) == (!(cmpI .lss 0 (vlu0 (a.tdiv (k3 a b c)) (b.tdiv (k3 a b c)) (c.tdiv (k3 a b c)) (d / k3 a b c) x y z)))) = true := by
          rw [v0, w0, lss_d, lss_d, nlt_d, nlt_d]
          by_cases q : a.tdiv (k3 a b c) * x + b.tdiv (k3 a b c) * y + c.tdiv (k3 a b c) * z ≤ d / k3 a b c
          · rw [decide_eq_true (L1.2 q), decide_eq_true (L2.2 q)]; rfl
          · rw [decide_eq_false (fun t => q (L1.1 t)), decide_eq_false (fun t => q (L2.1 t))]; rfl
        rw [v1, T1, M, ct]
        by_cases v : chkH e f g h = 0
        · have c1 : wth1 a b c d e f g h = 0 := chk4_ok.2 ⟨u, v⟩
          have c2 : wth1 e f g h a b c d = 0 := chk4_ok.2 ⟨v, u⟩
          have c3 : eql1 a b c d e f g h = 0 := chk4_ok.2 ⟨u, v⟩
          have u1 : vlu1 e f g h x y z = 0 := by unfold vlu1; rw [if_pos v, if_pos gi]
          have u0 : vlu0 e f g h x y z = valE e f g h x y z := if_pos ⟨v, gi⟩
          have L3 := val_le (x := x) (y := y) (z := z) v
          have k1 : chk4 a b c d e f g h = 0 := c1
          have k2 : chk4 e f g h a b c d = 0 := c2
          rw [c1, c2, c3, u1, T1, T1, T1, T1, v0, u0]
          unfold wth0 eql0
          rw [decide_eq_true k1, decide_eq_true k2, Bool.true_and, Bool.true_and, Bool.true_and]
          generalize a.tdiv (k3 a b c) = p0 at *
          generalize b.tdiv (k3 a b c) = p1 at *
          generalize c.tdiv (k3 a b c) = p2 at *
          generalize d / k3 a b c = p3 at *
          generalize e.tdiv (k3 e f g) = q0 at *
          generalize f.tdiv (k3 e f g) = q1 at *
          generalize g.tdiv (k3 e f g) = q2 at *
          generalize h / k3 e f g = q3 at *
          by_cases E : p0 = q0 ∧ p1 = q1 ∧ p2 = q2
          · obtain ⟨rfl, rfl, rfl⟩ := E
            by_cases E2 : p3 ≤ q3
            · have t1 : decide (p0 = p0 ∧ p1 = p1 ∧ p2 = p2 ∧ p3 ≤ q3) = true := decide_eq_true ⟨rfl, rfl, rfl, E2⟩
              have t2 : (decide (p0 = p0 ∧ p1 = p1 ∧ p2 = p2 ∧ p3 = q3) == decide (p0 = p0 ∧ p1 = p1 ∧ p2 = p2 ∧ q3 ≤ p3)) = true := by
                by_cases E3 : p3 = q3
                · rw [decide_eq_true ⟨rfl, rfl, rfl, E3⟩, decide_eq_true (show p0 = p0 ∧ p1 = p1 ∧ p2 = p2 ∧ q3 ≤ p3 from ⟨rfl, rfl, rfl, by omega⟩)]; rfl
                · rw [decide_eq_false (fun t => E3 t.2.2.2), decide_eq_false (show ¬ (p0 = p0 ∧ p1 = p1 ∧ p2 = p2 ∧ q3 ≤ p3) from fun t => E3 (by omega))]; rfl
              rw [t1, ct, t2, ct, ct, lss_d, lss_d, nlt_d]
              by_cases q : 0 < valE a b c d x y z
              · rw [decide_eq_true q]; rfl
              · rw [decide_eq_false q, cf, decide_eq_true (L3.2 (by omega))]
            · have t1 : decide (p0 = p0 ∧ p1 = p1 ∧ p2 = p2 ∧ p3 ≤ q3) = false := decide_eq_false fun t => E2 t.2.2.2
              have t2 : decide (p0 = p0 ∧ p1 = p1 ∧ p2 = p2 ∧ p3 = q3) = false := decide_eq_false fun t => E2 (by omega)
              rw [t1, cf, t2, cf, cf]
          · have t1 : decide (p0 = q0 ∧ p1 = q1 ∧ p2 = q2 ∧ p3 ≤ q3) = false := decide_eq_false fun t => E ⟨t.1, t.2.1, t.2.2.1⟩
            have t2 : decide (p0 = q0 ∧ p1 = q1 ∧ p2 = q2 ∧ p3 = q3) = false := decide_eq_false fun t => E ⟨t.1, t.2.1, t.2.2.1⟩
            rw [t1, cf, t2, cf, cf]
        · have c1 : ¬ wth1 a b c d e f g h = 0 := fun t => v (chk4_ok.1 t).2
          rw [eql_d, decide_eq_false c1, cf]
      · have v1 : vlu1 a b c d x y z = 6 := by unfold vlu1; rw [if_pos u, if_neg gi]
        rw [v1]
        have six0 : cmpI .eql 6 0 = false := by rw [eql_d]; exact decide_eq_false (by omega)
        rw [six0, cf]
        by_cases v : chkH e f g h = 0
        · have c1 : wth1 a b c d e f g h = 0 := chk4_ok.2 ⟨u, v⟩
          have u1 : vlu1 e f g h x y z = 6 := by unfold vlu1; rw [if_pos v, if_neg gi]
          rw [c1, T1, u1, six0, cf]
        · have c1 : ¬ wth1 a b c d e f g h = 0 := fun t => v (chk4_ok.1 t).2
          rw [eql_d, decide_eq_false c1, cf]
    · have e4 : ¬ nrm4 a b c d = 0 := u
      rw [eql_d (nrm4 a b c d), decide_eq_false e4, cf]
      unfold nrm0 nrm1 nrm2 nrm3
      rw [if_neg u, if_neg u, if_neg u, if_neg u]
      rfl
theorem own : ownKnob Try.prog.godebug = none := by kernel_rfl
theorem laidOut : laidOutB Try.prog = true := by kernel_rfl
theorem planePoints_lifted (os : Os) (started : os.Started) (H : Type) (enc : TypeId × Value → H) :
    ReturnsInHanded {} Try.checked os 11 .any (Rows.planePointsSpec.pre6 enc Try.prog Try.f11 Rows.planePointsRow.domain false) (Rows.planePointsSpec.post enc Try.prog Try.f11 false true false false) :=
  law_lifted (A := Try.checked) (rt := Try.f11.resultTypes[0]!) own laidOut started Try.func11 (by kernel_rfl) rfl (ss := [(iv 4), (iv 4), (iv 3)]) (by kernel_rfl) (by kernel_rfl) rfl (by kernel_rfl)
    (fun ds hl => by
        match ds, hl with
        | [d1, d2, d3], _ => exact ⟨rfl, rfl, rfl⟩)
    (ChangeSpec.witness6 (enc := enc) (C := Try.checked) false ⟨#[], #[.agg #[.int .i64 0, .int .i64 0, .int .i64 0, .int .i64 0], .agg #[.int .i64 0, .int .i64 0, .int .i64 0, .int .i64 0], .agg #[.int .i64 0, .int .i64 0, .int .i64 0]], []⟩ 8 (by kernel_rfl) (by kernel_rfl) (by kernel_rfl) (by kernel_rfl))
    l11
/-- The statement: a point lies in a half-space exactly if it lies in its normal form, which is its own normal form. -/
theorem planePoints_holds : Rows.PlanePointsSaid :=
  OpenClaim.holds_of_wide 11 Try.f11 rfl rfl rfl rfl rfl rfl rfl ⟨rfl, rfl, rfl, rfl, rfl⟩ rfl rfl rfl rfl rfl (by kernel_rfl) Try.func11 (by kernel_rfl)
    (of_decide_eq_true (by kernel_rfl)) (by unfold Func.isWrapper; rw [if_neg (of_decide_eq_false (by kernel_rfl))]; exact ⟨rfl, rfl⟩)
    (fun os started H enc _ => planePoints_lifted os started H enc)
end Go.Proofs.Ytldnlbfchkdoiaa
