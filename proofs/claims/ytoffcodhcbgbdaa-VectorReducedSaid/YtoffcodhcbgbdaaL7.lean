/- The vector seat: in the vector seat, the primitive vector times its factor is the vector, and it is its own primitive vector; for every input, without a condition. -/
import Derived.Test.YtoffcodhcbgbdaaV3
import Derived.Test.YtoffcodhcbgbdaaRows
namespace Go.Proofs.Ytoffcodhcbgbdaa
open Go.Sx
set_option linter.unusedVariables false
set_option linter.unusedSimpArgs false
set_option maxRecDepth 100000
open Go.ChangeShapes Go.WideShapes Go.ChangeAt Go.RowKit
theorem t7 (x : Int) (y : Int) (z : Int) (Q : List Sc → Prop) : (fnT (cfgOf Try.prog sigs [12, 13] [41, 51, 53, 52] noLoop) 7 Try.f7 (bodyOf Try.f7) ⟨[(iv 3)], [b1]⟩ 100).holds Φ [.int x, .int y, .int z] (resQ Φ Q) =
  (cond awk0
   (cond (cmpI .eql (prm4 x y z) 0)
    (cond (cmpI .lss (prm3 x y z) 1)
     (Q [.bool false])
     (cond (cmpI .eql (arI .mul .i64 (prm3 x y z) (prm0 x y z)) x)
      (cond (cmpI .eql (arI .mul .i64 (prm3 x y z) (prm1 x y z)) y)
       (cond (cmpI .eql (arI .mul .i64 (prm3 x y z) (prm2 x y z)) z)
        (cond (cmpI .eql (prm4 (prm0 x y z) (prm1 x y z) (prm2 x y z)) 0)
         (cond (cmpI .eql (prm3 (prm0 x y z) (prm1 x y z) (prm2 x y z)) 1)
          (cond ((cmpI .eql (prm0 (prm0 x y z) (prm1 x y z) (prm2 x y z)) (prm0 x y z)) && ((cmpI .eql (prm1 (prm0 x y z) (prm1 x y z) (prm2 x y z)) (prm1 x y z)) && (cmpI .eql (prm2 (prm0 x y z) (prm1 x y z) (prm2 x y z)) (prm2 x y z))))
           (cond (cmpI .eql (prm4 (arI .sub .i64 0 x) (arI .sub .i64 0 y) (arI .sub .i64 0 z)) 0)
            (cond (cmpI .eql (prm3 (arI .sub .i64 0 x) (arI .sub .i64 0 y) (arI .sub .i64 0 z)) (prm3 x y z))
             (Q [.bool ((cmpI .eql (prm0 (arI .sub .i64 0 x) (arI .sub .i64 0 y) (arI .sub .i64 0 z)) (arI .sub .i64 0 (prm0 x y z))) && ((cmpI .eql (prm1 (arI .sub .i64 0 x) (arI .sub .i64 0 y) (arI .sub .i64 0 z)) (arI .sub .i64 0 (prm1 x y z))) && (cmpI .eql (prm2 (arI .sub .i64 0 x) (arI .sub .i64 0 y) (arI .sub .i64 0 z)) (arI .sub .i64 0 (prm2 x y z)))))])
             (Q [.bool false]))
            (Q [.bool false]))
           (Q [.bool false]))
          (Q [.bool false]))
         (Q [.bool false]))
        (Q [.bool false]))
       (Q [.bool false]))
      (Q [.bool false])))
    (cond ((cmpI .eql (prm0 x y z) 0) && ((cmpI .eql (prm1 x y z) 0) && (cmpI .eql (prm2 x y z) 0)))
     (Q [.bool (cmpI .eql (prm3 x y z) 0)])
     (Q [.bool false])))
   (Q [.bool false])) := by kernel_rfl
theorem k3_dvd (x y z : Int) : k3 x y z ∣ x ∧ k3 x y z ∣ y ∧ k3 x y z ∣ z :=
  ⟨Int.ofNat_dvd_left.2 (Nat.dvd_trans (Nat.gcd_dvd_left _ _) (Nat.gcd_dvd_left _ _)), Int.ofNat_dvd_left.2 (Nat.dvd_trans (Nat.gcd_dvd_left _ _) (Nat.gcd_dvd_right _ _)), Int.ofNat_dvd_left.2 (Nat.gcd_dvd_right _ _)⟩
theorem k3_one {x y z : Int} (h : in3 x y z = true) (h0 : ¬ (x = 0 ∧ y = 0 ∧ z = 0)) : k3 (x.tdiv (k3 x y z)) (y.tdiv (k3 x y z)) (z.tdiv (k3 x y z)) = 1 := by
  have hk := k3_le h h0
  have e : (k3 x y z).natAbs = Nat.gcd (Nat.gcd x.natAbs y.natAbs) z.natAbs := rfl
  have hp : 0 < Nat.gcd (Nat.gcd x.natAbs y.natAbs) z.natAbs := by omega
  have d1 : Nat.gcd (Nat.gcd x.natAbs y.natAbs) z.natAbs ∣ x.natAbs := Nat.dvd_trans (Nat.gcd_dvd_left _ _) (Nat.gcd_dvd_left _ _)
  have d2 : Nat.gcd (Nat.gcd x.natAbs y.natAbs) z.natAbs ∣ y.natAbs := Nat.dvd_trans (Nat.gcd_dvd_left _ _) (Nat.gcd_dvd_right _ _)
  have d3 : Nat.gcd (Nat.gcd x.natAbs y.natAbs) z.natAbs ∣ z.natAbs := Nat.gcd_dvd_right _ _
  have key : Nat.gcd (Nat.gcd (x.tdiv (k3 x y z)).natAbs (y.tdiv (k3 x y z)).natAbs) (z.tdiv (k3 x y z)).natAbs = 1 := by
    rw [Int.natAbs_tdiv, Int.natAbs_tdiv, Int.natAbs_tdiv, e]
    show Nat.gcd (Nat.gcd (x.natAbs / Nat.gcd (Nat.gcd x.natAbs y.natAbs) z.natAbs) (y.natAbs / Nat.gcd (Nat.gcd x.natAbs y.natAbs) z.natAbs)) (z.natAbs / Nat.gcd (Nat.gcd x.natAbs y.natAbs) z.natAbs) = 1
    rw [Nat.gcd_div d1 d2, Nat.gcd_div (Nat.gcd_dvd_left _ _) d3, Nat.div_self hp]
  exact congrArg (Nat.cast : Nat → Int) key

theorem l7 : ∀ l, InRange [(iv 3)] l → ∀ W, Calls Try.prog 7 (packs [(iv 3)] l).toArray W fun e w' => e = .returned (.bool true) ∧ Below W.heap.size W w' :=
  law_of [12, 13] [41, 51, 53, 52] noLoop 100 mixed Try.func7 (by kernel_rfl) (forall_cons c12 (forall_cons c13 forall_nil)) fun l0 hl0 => by
    obtain ⟨x, l1, rfl, r0, hl1⟩ := range_i64 hl0
    obtain ⟨y, l2, rfl, r1, hl2⟩ := range_i64 hl1
    obtain ⟨z, l3, rfl, r2, hl3⟩ := range_i64 hl2
    cases range_nil hl3
    clear hl3 hl2 hl1 hl0
    show T.holds _ _ _ (resQ Φ fun rs => rs = [.bool true])
    rw [t7]
    have ha : awk0 = true := rfl
    rw [ha]
    by_cases h : in3 x y z = true
    · by_cases h0 : x = 0 ∧ y = 0 ∧ z = 0
      · obtain ⟨rfl, rfl, rfl⟩ := h0
        refine Eq.mp (α := [Sc.bool true] = [Sc.bool true]) ?_ rfl
        kernel_rfl
      · have hk := k3_le h h0
        have hr := h
        simp only [in3, Bool.and_eq_true, inC_iff] at hr
        obtain ⟨⟨rx, ry⟩, rz⟩ := hr
        obtain ⟨d1, d2, d3⟩ := k3_dvd x y z
        have bx := tdiv_bd (x := x) (k := k3 x y z) (B := 1000000) rx.1 rx.2
        have by' := tdiv_bd (x := y) (k := k3 x y z) (B := 1000000) ry.1 ry.2
        have bz := tdiv_bd (x := z) (k := k3 x y z) (B := 1000000) rz.1 rz.2
        have m1 := Int.mul_tdiv_cancel' d1
        have m2 := Int.mul_tdiv_cancel' d2
        have m3 := Int.mul_tdiv_cancel' d3
        have hn : ¬ k3 x y z = 0 := by omega
        have e0 : prm0 x y z = x.tdiv (k3 x y z) := if_pos h
        have e1 : prm1 x y z = y.tdiv (k3 x y z) := if_pos h
        have e2 : prm2 x y z = z.tdiv (k3 x y z) := if_pos h
        have e3 : prm3 x y z = k3 x y z := if_pos h
        have e4 : prm4 x y z = 0 := by unfold prm4; rw [if_pos h, if_neg hn]
        have o := k3_one h h0
        have hq : in3 (x.tdiv (k3 x y z)) (y.tdiv (k3 x y z)) (z.tdiv (k3 x y z)) = true := by
          simp only [in3, Bool.and_eq_true, inC_iff]; exact ⟨⟨bx, by'⟩, bz⟩
        have n1 : arI .sub .i64 0 x = -x := by rw [ar_sub (by omega) (by omega), Int.zero_sub]
        have n2 : arI .sub .i64 0 y = -y := by rw [ar_sub (by omega) (by omega), Int.zero_sub]
        have n3 : arI .sub .i64 0 z = -z := by rw [ar_sub (by omega) (by omega), Int.zero_sub]
        have q1 : arI .sub .i64 0 (x.tdiv (k3 x y z)) = -(x.tdiv (k3 x y z)) := by rw [ar_sub (by omega) (by omega), Int.zero_sub]
        have q2 : arI .sub .i64 0 (y.tdiv (k3 x y z)) = -(y.tdiv (k3 x y z)) := by rw [ar_sub (by omega) (by omega), Int.zero_sub]
        have q3 : arI .sub .i64 0 (z.tdiv (k3 x y z)) = -(z.tdiv (k3 x y z)) := by rw [ar_sub (by omega) (by omega), Int.zero_sub]
        have a1 : arI .mul .i64 (k3 x y z) (x.tdiv (k3 x y z)) = x := by rw [ar_mul (by rw [m1]; omega) (by rw [m1]; omega), m1]
        have a2 : arI .mul .i64 (k3 x y z) (y.tdiv (k3 x y z)) = y := by rw [ar_mul (by rw [m2]; omega) (by rw [m2]; omega), m2]
        have a3 : arI .mul .i64 (k3 x y z) (z.tdiv (k3 x y z)) = z := by rw [ar_mul (by rw [m3]; omega) (by rw [m3]; omega), m3]
        have kn : k3 (-x) (-y) (-z) = k3 x y z := by simp only [k3, Int.natAbs_neg]
        have hm : in3 (-x) (-y) (-z) = true := by
          simp only [in3, Bool.and_eq_true, inC_iff]; omega
        have hk1 : ¬ k3 x y z < 1 := by omega
        rw [e0, e1, e2, e3, e4, n1, n2, n3, q1, q2, q3, a1, a2, a3]
        simp only [prm0, prm1, prm2, prm3, prm4, if_pos hq, if_pos hm, o, kn, Int.tdiv_one, Int.neg_tdiv, if_neg hn]
        simp [eql_d, lss_d, hk1]
    · have h' : in3 x y z = false := by simpa using h
      simp only [prm0, prm1, prm2, prm3, prm4, h', eql_d]
      simp
theorem own : ownKnob Try.prog.godebug = none := by kernel_rfl
theorem laidOut : laidOutB Try.prog = true := by kernel_rfl
theorem vectorReduced_lifted (os : Os) (started : os.Started) (H : Type) (enc : TypeId × Value → H) :
    ReturnsInHanded {} Try.checked os 7 .any (Rows.vectorReducedSpec.pre6 enc Try.prog Try.f7 Rows.vectorReducedRow.domain false) (Rows.vectorReducedSpec.post enc Try.prog Try.f7 false true false false) :=
  law_lifted (A := Try.checked) (rt := Try.f7.resultTypes[0]!) own laidOut started Try.func7 (by kernel_rfl) rfl (ss := [(iv 3)]) (by kernel_rfl) (by kernel_rfl) rfl (by kernel_rfl)
    (fun ds hl => by
        obtain ⟨d1, rfl⟩ : ∃ a, ds = [a] := by
          cases ds with
          | nil => cases hl
          | cons a t => cases t with
            | nil => exact ⟨a, rfl⟩
            | cons _ _ => cases hl
        exact ⟨rfl, rfl, rfl⟩)
    (ChangeSpec.witness6 (enc := enc) (C := Try.checked) false ⟨#[], #[.agg #[.int .i64 0, .int .i64 0, .int .i64 0]], []⟩ 8 (by kernel_rfl) (by kernel_rfl) (by kernel_rfl) (by kernel_rfl))
    l7
/-- The statement: the primitive vector times its factor is the vector, and it is its own primitive vector. -/
theorem vectorReduced_holds : Rows.VectorReducedSaid :=
  OpenClaim.holds_of_wide 7 Try.f7 rfl rfl rfl rfl rfl rfl rfl ⟨rfl, rfl, rfl, rfl, rfl⟩ rfl rfl rfl rfl rfl (by kernel_rfl) Try.func7 (by kernel_rfl)
    (of_decide_eq_true (by kernel_rfl)) (by unfold Func.isWrapper; rw [if_neg (of_decide_eq_false (by kernel_rfl))]; exact ⟨rfl, rfl⟩)
    (fun os started H enc _ => vectorReduced_lifted os started H enc)
end Go.Proofs.Ytoffcodhcbgbdaa
