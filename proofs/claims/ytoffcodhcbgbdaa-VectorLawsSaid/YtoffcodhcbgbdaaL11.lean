/- The vector seat: in the vector seat, Sub undoes Add, and the products and the distance obey their laws; for every input, without a condition. -/
import Derived.Test.YtoffcodhcbgbdaaV3
import Derived.Test.YtoffcodhcbgbdaaRows
namespace Go.Proofs.Ytoffcodhcbgbdaa
open Go.Sx
set_option linter.unusedVariables false
set_option linter.unusedSimpArgs false
set_option maxRecDepth 100000
open Go.ChangeShapes Go.WideShapes Go.ChangeAt Go.RowKit
theorem t11 (ax : Int) (ay : Int) (az : Int) (bx : Int) (by' : Int) (bz : Int) (cx : Int) (cy : Int) (cz : Int) (Q : List Sc → Prop) : (fnT (cfgOf Try.prog sigs [12, 30, 31, 24, 25, 26] [41, 51, 53, 52] noLoop) 11 Try.f11 (bodyOf Try.f11) ⟨[(iv 3), (iv 3), (iv 3)], [b1]⟩ 100).holds Φ [.int ax, .int ay, .int az, .int bx, .int by', .int bz, .int cx, .int cy, .int cz] (resQ Φ Q) =
  (cond awk0
   (cond (cmpI .eql (add3 ax ay az bx by' bz) 0)
    (cond (cmpI .eql (sub3 (add0 ax ay az bx by' bz) (add1 ax ay az bx by' bz) (add2 ax ay az bx by' bz) bx by' bz) 0)
     (cond ((cmpI .eql (sub0 (add0 ax ay az bx by' bz) (add1 ax ay az bx by' bz) (add2 ax ay az bx by' bz) bx by' bz) ax) && ((cmpI .eql (sub1 (add0 ax ay az bx by' bz) (add1 ax ay az bx by' bz) (add2 ax ay az bx by' bz) bx by' bz) ay) && (cmpI .eql (sub2 (add0 ax ay az bx by' bz) (add1 ax ay az bx by' bz) (add2 ax ay az bx by' bz) bx by' bz) az)))
      (cond (cmpI .eql (dot0 ax ay az bx by' bz) (dot0 bx by' bz ax ay az))
       (cond (cmpI .eql (dot1 ax ay az bx by' bz) (dot1 bx by' bz ax ay az))
        (cond (cmpI .eql (crs3 ax ay az bx by' bz) (crs3 bx by' bz ax ay az))
         (cond (cmpI .eql (crs0 ax ay az bx by' bz) (arI .sub .i64 0 (crs0 bx by' bz ax ay az)))
          (cond (cmpI .eql (crs1 ax ay az bx by' bz) (arI .sub .i64 0 (crs1 bx by' bz ax ay az)))
           (cond (cmpI .eql (crs2 ax ay az bx by' bz) (arI .sub .i64 0 (crs2 bx by' bz ax ay az)))
            (cond (cmpI .eql (crs3 ax ay az bx by' bz) 0)
             (cond (cmpI .eql (arI .add .i64 (arI .add .i64 (arI .mul .i64 ax (crs0 ax ay az bx by' bz)) (arI .mul .i64 ay (crs1 ax ay az bx by' bz))) (arI .mul .i64 az (crs2 ax ay az bx by' bz))) 0)
              (cond (cmpI .eql (arI .add .i64 (arI .add .i64 (arI .mul .i64 bx (crs0 ax ay az bx by' bz)) (arI .mul .i64 by' (crs1 ax ay az bx by' bz))) (arI .mul .i64 bz (crs2 ax ay az bx by' bz))) 0)
               (cond (cmpI .eql (add3 ax ay az cx cy cz) 0)
                (cond (cmpI .eql (add3 bx by' bz cx cy cz) 0)
                 (cond (cmpI .eql (dst1 ax ay az bx by' bz) 0)
                  (cond (cmpI .eql (dst1 (add0 ax ay az cx cy cz) (add1 ax ay az cx cy cz) (add2 ax ay az cx cy cz) (add0 bx by' bz cx cy cz) (add1 bx by' bz cx cy cz) (add2 bx by' bz cx cy cz)) 0)
                   (Q [.bool (cmpI .eql (dst0 ax ay az bx by' bz) (dst0 (add0 ax ay az cx cy cz) (add1 ax ay az cx cy cz) (add2 ax ay az cx cy cz) (add0 bx by' bz cx cy cz) (add1 bx by' bz cx cy cz) (add2 bx by' bz cx cy cz)))])
                   (Q [.bool false]))
                  (Q [.bool false]))
                 (Q [.bool true]))
                (Q [.bool true]))
               (Q [.bool false]))
              (Q [.bool false]))
             (cond (cmpI .eql (add3 ax ay az cx cy cz) 0)
              (cond (cmpI .eql (add3 bx by' bz cx cy cz) 0)
               (cond (cmpI .eql (dst1 ax ay az bx by' bz) 0)
                (cond (cmpI .eql (dst1 (add0 ax ay az cx cy cz) (add1 ax ay az cx cy cz) (add2 ax ay az cx cy cz) (add0 bx by' bz cx cy cz) (add1 bx by' bz cx cy cz) (add2 bx by' bz cx cy cz)) 0)
                 (Q [.bool (cmpI .eql (dst0 ax ay az bx by' bz) (dst0 (add0 ax ay az cx cy cz) (add1 ax ay az cx cy cz) (add2 ax ay az cx cy cz) (add0 bx by' bz cx cy cz) (add1 bx by' bz cx cy cz) (add2 bx by' bz cx cy cz)))])
                 (Q [.bool false]))
                (Q [.bool false]))
               (Q [.bool true]))
              (Q [.bool true])))
            (Q [.bool false]))
           (Q [.bool false]))
          (Q [.bool false]))
         (Q [.bool false]))
        (Q [.bool false]))
       (Q [.bool false]))
      (Q [.bool false]))
     (Q [.bool false]))
    (cond (cmpI .eql (dot0 ax ay az bx by' bz) (dot0 bx by' bz ax ay az))
     (cond (cmpI .eql (dot1 ax ay az bx by' bz) (dot1 bx by' bz ax ay az))
      (cond (cmpI .eql (crs3 ax ay az bx by' bz) (crs3 bx by' bz ax ay az))
       (cond (cmpI .eql (crs0 ax ay az bx by' bz) (arI .sub .i64 0 (crs0 bx by' bz ax ay az)))
        (cond (cmpI .eql (crs1 ax ay az bx by' bz) (arI .sub .i64 0 (crs1 bx by' bz ax ay az)))
         (cond (cmpI .eql (crs2 ax ay az bx by' bz) (arI .sub .i64 0 (crs2 bx by' bz ax ay az)))
          (cond (cmpI .eql (crs3 ax ay az bx by' bz) 0)
           (cond (cmpI .eql (arI .add .i64 (arI .add .i64 (arI .mul .i64 ax (crs0 ax ay az bx by' bz)) (arI .mul .i64 ay (crs1 ax ay az bx by' bz))) (arI .mul .i64 az (crs2 ax ay az bx by' bz))) 0)
            (cond (cmpI .eql (arI .add .i64 (arI .add .i64 (arI .mul .i64 bx (crs0 ax ay az bx by' bz)) (arI .mul .i64 by' (crs1 ax ay az bx by' bz))) (arI .mul .i64 bz (crs2 ax ay az bx by' bz))) 0)
             (cond (cmpI .eql (add3 ax ay az cx cy cz) 0)
              (cond (cmpI .eql (add3 bx by' bz cx cy cz) 0)
               (cond (cmpI .eql (dst1 ax ay az bx by' bz) 0)
                (cond (cmpI .eql (dst1 (add0 ax ay az cx cy cz) (add1 ax ay az cx cy cz) (add2 ax ay az cx cy cz) (add0 bx by' bz cx cy cz) (add1 bx by' bz cx cy cz) (add2 bx by' bz cx cy cz)) 0)
                 (Q [.bool (cmpI .eql (dst0 ax ay az bx by' bz) (dst0 (add0 ax ay az cx cy cz) (add1 ax ay az cx cy cz) (add2 ax ay az cx cy cz) (add0 bx by' bz cx cy cz) (add1 bx by' bz cx cy cz) (add2 bx by' bz cx cy cz)))])
                 (Q [.bool false]))
                (Q [.bool false]))
               (Q [.bool true]))
              (Q [.bool true]))
             (Q [.bool false]))
            (Q [.bool false]))
           (cond (cmpI .eql (add3 ax ay az cx cy cz) 0)
            (cond (cmpI .eql (add3 bx by' bz cx cy cz) 0)
             (cond (cmpI .eql (dst1 ax ay az bx by' bz) 0)
              (cond (cmpI .eql (dst1 (add0 ax ay az cx cy cz) (add1 ax ay az cx cy cz) (add2 ax ay az cx cy cz) (add0 bx by' bz cx cy cz) (add1 bx by' bz cx cy cz) (add2 bx by' bz cx cy cz)) 0)
               (Q [.bool (cmpI .eql (dst0 ax ay az bx by' bz) (dst0 (add0 ax ay az cx cy cz) (add1 ax ay az cx cy cz) (add2 ax ay az cx cy cz) (add0 bx by' bz cx cy cz) (add1 bx by' bz cx cy cz) (add2 bx by' bz cx cy cz)))])
               (Q [.bool false]))
              (Q [.bool false]))
             (Q [.bool true]))
            (Q [.bool true])))
          (Q [.bool false]))
         (Q [.bool false]))
        (Q [.bool false]))
       (Q [.bool false]))
      (Q [.bool false]))
     (Q [.bool false])))
   (Q [.bool false])) := by kernel_rfl
theorem addOk {ax ay az bx by' bz : Int} (h : add3 ax ay az bx by' bz = 0) : in3 ax ay az = true ∧ in3 bx by' bz = true ∧ in3 (ax + bx) (ay + by') (az + bz) = true ∧ add0 ax ay az bx by' bz = ax + bx ∧ add1 ax ay az bx by' bz = ay + by' ∧ add2 ax ay az bx by' bz = az + bz := by
  unfold add3 at h
  by_cases c : (in3 ax ay az && in3 bx by' bz && in3 (ax + bx) (ay + by') (az + bz)) = true
  · have d := c
    simp only [Bool.and_eq_true] at d
    exact ⟨d.1.1, d.1.2, d.2, if_pos c, if_pos c, if_pos c⟩
  · rw [if_neg c] at h
    omega
theorem dot0_comm (ax ay az bx by' bz : Int) : dot0 bx by' bz ax ay az = dot0 ax ay az bx by' bz := by
  unfold dot0
  rw [Bool.and_comm, Int.mul_comm bx ax, Int.mul_comm by' ay, Int.mul_comm bz az]
theorem dot1_comm (ax ay az bx by' bz : Int) : dot1 bx by' bz ax ay az = dot1 ax ay az bx by' bz := by
  unfold dot1
  rw [Bool.and_comm]
theorem crs3_comm (ax ay az bx by' bz : Int) : crs3 bx by' bz ax ay az = crs3 ax ay az bx by' bz := by
  unfold crs3
  rw [Bool.and_comm]
theorem diff_bd {p q r s : Int} (h1 : -1000000 ≤ p ∧ p ≤ 1000000) (h2 : -1000000 ≤ q ∧ q ≤ 1000000) (h3 : -1000000 ≤ r ∧ r ≤ 1000000) (h4 : -1000000 ≤ s ∧ s ≤ 1000000) :
    -2000000000000 ≤ p * q - r * s ∧ p * q - r * s ≤ 2000000000000 := by
  have m1 := mul_bd (a := p) (b := q) (A := 1000000) (B := 1000000) h1.1 h1.2 h2.1 h2.2
  have m2 := mul_bd (a := r) (b := s) (A := 1000000) (B := 1000000) h3.1 h3.2 h4.1 h4.2
  omega
theorem anti {p q r s : Int} (h1 : -1000000 ≤ p ∧ p ≤ 1000000) (h2 : -1000000 ≤ q ∧ q ≤ 1000000) (h3 : -1000000 ≤ r ∧ r ≤ 1000000) (h4 : -1000000 ≤ s ∧ s ≤ 1000000) :
    arI .sub .i64 0 (p * q - r * s) = s * r - q * p := by
  have h := diff_bd h1 h2 h3 h4
  rw [ar_sub (by omega) (by omega), Int.mul_comm s r, Int.mul_comm q p]
  omega
theorem crs0_anti (ax ay az bx by' bz : Int) : arI .sub .i64 0 (crs0 bx by' bz ax ay az) = crs0 ax ay az bx by' bz := by
  unfold crs0
  rw [Bool.and_comm]
  by_cases hb : (in3 ax ay az && in3 bx by' bz) = true
  · rw [if_pos hb, if_pos hb]
    simp only [in3, Bool.and_eq_true, inC_iff] at hb
    exact anti (by omega) (by omega) (by omega) (by omega)
  · rw [if_neg hb, if_neg hb]
    rfl
theorem crs1_anti (ax ay az bx by' bz : Int) : arI .sub .i64 0 (crs1 bx by' bz ax ay az) = crs1 ax ay az bx by' bz := by
  unfold crs1
  rw [Bool.and_comm]
  by_cases hb : (in3 ax ay az && in3 bx by' bz) = true
  · rw [if_pos hb, if_pos hb]
    simp only [in3, Bool.and_eq_true, inC_iff] at hb
    exact anti (by omega) (by omega) (by omega) (by omega)
  · rw [if_neg hb, if_neg hb]
    rfl
theorem crs2_anti (ax ay az bx by' bz : Int) : arI .sub .i64 0 (crs2 bx by' bz ax ay az) = crs2 ax ay az bx by' bz := by
  unfold crs2
  rw [Bool.and_comm]
  by_cases hb : (in3 ax ay az && in3 bx by' bz) = true
  · rw [if_pos hb, if_pos hb]
    simp only [in3, Bool.and_eq_true, inC_iff] at hb
    exact anti (by omega) (by omega) (by omega) (by omega)
  · rw [if_neg hb, if_neg hb]
    rfl
theorem tri_bd {a c : Int} (h1 : -1000000 ≤ a ∧ a ≤ 1000000) (h2 : -2000000000000 ≤ c ∧ c ≤ 2000000000000) :
    arI .mul .i64 a c = a * c ∧ -2000000000000000000 ≤ a * c ∧ a * c ≤ 2000000000000000000 := by
  have m := mul_bd (a := a) (b := c) (A := 1000000) (B := 2000000000000) h1.1 h1.2 h2.1 h2.2
  exact ⟨ar_mul (by omega) (by omega), by omega, by omega⟩
theorem orth_gen {a b c p q r : Int} (h1 : -1000000 ≤ a ∧ a ≤ 1000000) (h2 : -1000000 ≤ b ∧ b ≤ 1000000) (h3 : -1000000 ≤ c ∧ c ≤ 1000000)
    (k1 : -2000000000000 ≤ p ∧ p ≤ 2000000000000) (k2 : -2000000000000 ≤ q ∧ q ≤ 2000000000000) (k3 : -2000000000000 ≤ r ∧ r ≤ 2000000000000) (h : a * p + b * q + c * r = 0) :
    arI .add .i64 (arI .add .i64 (arI .mul .i64 a p) (arI .mul .i64 b q)) (arI .mul .i64 c r) = 0 := by
  obtain ⟨e1, l1, u1⟩ := tri_bd h1 k1
  obtain ⟨e2, l2, u2⟩ := tri_bd h2 k2
  obtain ⟨e3, l3, u3⟩ := tri_bd h3 k3
  rw [e1, e2, e3, ar_add (a := a * p) (by omega) (by omega), ar_add (by omega) (by omega), h]
theorem orth {ax ay az bx by' bz : Int} (h : crs3 ax ay az bx by' bz = 0) :
    arI .add .i64 (arI .add .i64 (arI .mul .i64 ax (crs0 ax ay az bx by' bz)) (arI .mul .i64 ay (crs1 ax ay az bx by' bz))) (arI .mul .i64 az (crs2 ax ay az bx by' bz)) = 0 ∧
    arI .add .i64 (arI .add .i64 (arI .mul .i64 bx (crs0 ax ay az bx by' bz)) (arI .mul .i64 by' (crs1 ax ay az bx by' bz))) (arI .mul .i64 bz (crs2 ax ay az bx by' bz)) = 0 := by
  unfold crs3 at h
  by_cases hb : (in3 ax ay az && in3 bx by' bz) = true
  · have e0 : crs0 ax ay az bx by' bz = ay * bz - az * by' := if_pos hb
    have e1 : crs1 ax ay az bx by' bz = az * bx - ax * bz := if_pos hb
    have e2 : crs2 ax ay az bx by' bz = ax * by' - ay * bx := if_pos hb
    simp only [in3, Bool.and_eq_true, inC_iff] at hb
    rw [e0, e1, e2]
    have k1 := diff_bd (p := ay) (q := bz) (r := az) (s := by') (by omega) (by omega) (by omega) (by omega)
    have k2 := diff_bd (p := az) (q := bx) (r := ax) (s := bz) (by omega) (by omega) (by omega) (by omega)
    have k3 := diff_bd (p := ax) (q := by') (r := ay) (s := bx) (by omega) (by omega) (by omega) (by omega)
    constructor
    · refine orth_gen (by omega) (by omega) (by omega) k1 k2 k3 ?_
      rw [Int.mul_sub, Int.mul_sub, Int.mul_sub, Int.mul_left_comm ay az bx, Int.mul_left_comm ay ax bz, Int.mul_left_comm az ax by']
      omega
    · refine orth_gen (by omega) (by omega) (by omega) k1 k2 k3 ?_
      rw [Int.mul_sub, Int.mul_sub, Int.mul_sub, Int.mul_comm ay bz, Int.mul_comm az by', Int.mul_comm az bx, Int.mul_comm ax bz, Int.mul_comm ax by', Int.mul_comm ay bx,
        Int.mul_left_comm by' bx az, Int.mul_left_comm bz bx ay, Int.mul_left_comm bz by' ax]
      omega
  · rw [if_neg hb] at h
    omega

theorem l11 : ∀ l, InRange [(iv 3), (iv 3), (iv 3)] l → ∀ W, Calls Try.prog 11 (packs [(iv 3), (iv 3), (iv 3)] l).toArray W fun e w' => e = .returned (.bool true) ∧ Below W.heap.size W w' :=
  law_of [12, 30, 31, 24, 25, 26] [41, 51, 53, 52] noLoop 100 mixed Try.func11 (by kernel_rfl) (forall_cons c12 (forall_cons c30 (forall_cons c31 (forall_cons c24 (forall_cons c25 (forall_cons c26 forall_nil)))))) fun l0 hl0 => by
    obtain ⟨ax, l1, rfl, r0, hl1⟩ := range_i64 hl0
    obtain ⟨ay, l2, rfl, r1, hl2⟩ := range_i64 hl1
    obtain ⟨az, l3, rfl, r2, hl3⟩ := range_i64 hl2
    obtain ⟨bx, l4, rfl, r3, hl4⟩ := range_i64 hl3
    obtain ⟨by', l5, rfl, r4, hl5⟩ := range_i64 hl4
    obtain ⟨bz, l6, rfl, r5, hl6⟩ := range_i64 hl5
    obtain ⟨cx, l7, rfl, r6, hl7⟩ := range_i64 hl6
    obtain ⟨cy, l8, rfl, r7, hl8⟩ := range_i64 hl7
    obtain ⟨cz, l9, rfl, r8, hl9⟩ := range_i64 hl8
    cases range_nil hl9
    clear hl9 hl8 hl7 hl6 hl5 hl4 hl3 hl2 hl1 hl0
    show T.holds _ _ _ (resQ Φ fun rs => rs = [.bool true])
    rw [t11]
    have ha : awk0 = true := rfl
    rw [ha, dot0_comm ax ay az bx by' bz, dot1_comm ax ay az bx by' bz, crs3_comm ax ay az bx by' bz, crs0_anti ax ay az bx by' bz, crs1_anti ax ay az bx by' bz, crs2_anti ax ay az bx by' bz]
    have T1 : ∀ {A B : Prop} (u : Int), cond (cmpI .eql u u) A B = A := by intro A B u; rw [eql_d, decide_eq_true rfl]; rfl
    rw [T1, T1, T1, T1, T1, T1]
    have R : ∀ {A B : Prop}, A → cond (cmpI .eql (add3 ax ay az cx cy cz) 0) (cond (cmpI .eql (add3 bx by' bz cx cy cz) 0) (cond (cmpI .eql (dst1 ax ay az bx by' bz) 0) (cond (cmpI .eql (dst1 (add0 ax ay az cx cy cz) (add1 ax ay az cx cy cz) (add2 ax ay az cx cy cz) (add0 bx by' bz cx cy cz) (add1 bx by' bz cx cy cz) (add2 bx by' bz cx cy cz)) 0) ([Sc.bool (cmpI .eql (dst0 ax ay az bx by' bz) (dst0 (add0 ax ay az cx cy cz) (add1 ax ay az cx cy cz) (add2 ax ay az cx cy cz) (add0 bx by' bz cx cy cz) (add1 bx by' bz cx cy cz) (add2 bx by' bz cx cy cz)))] = [Sc.bool true]) B) B) A) A := by
      intro A B hA
      by_cases g1 : add3 ax ay az cx cy cz = 0
      · by_cases g2 : add3 bx by' bz cx cy cz = 0
        · have u := addOk g1
          have w := addOk g2
          obtain ⟨u1, u2, u3, u4, u5, u6⟩ := u
          obtain ⟨w1, w2, w3, w4, w5, w6⟩ := w
          rw [u4, u5, u6, w4, w5, w6]
          have k1 : dst1 ax ay az bx by' bz = 0 := by unfold dst1; rw [u1, w1]; rfl
          have k2 : dst1 (ax + cx) (ay + cy) (az + cz) (bx + cx) (by' + cy) (bz + cz) = 0 := by unfold dst1; rw [u3, w3]; rfl
          have k3 : dst0 (ax + cx) (ay + cy) (az + cz) (bx + cx) (by' + cy) (bz + cz) = dst0 ax ay az bx by' bz := by
            unfold dst0
            rw [u1, w1, u3, w3, show ax + cx - (bx + cx) = ax - bx by omega, show ay + cy - (by' + cy) = ay - by' by omega, show az + cz - (bz + cz) = az - bz by omega]
          rw [g1, g2, k1, k2, k3, T1, T1, T1, T1, eql_d, decide_eq_true rfl]
        · rw [g1, T1, eql_d, decide_eq_false g2]
          exact hA
      · rw [eql_d, decide_eq_false g1]
        exact hA
    have S : ∀ {A B : Prop}, A → cond (cmpI .eql (crs3 ax ay az bx by' bz) 0) (cond (cmpI .eql (arI .add .i64 (arI .add .i64 (arI .mul .i64 ax (crs0 ax ay az bx by' bz)) (arI .mul .i64 ay (crs1 ax ay az bx by' bz))) (arI .mul .i64 az (crs2 ax ay az bx by' bz))) 0) (cond (cmpI .eql (arI .add .i64 (arI .add .i64 (arI .mul .i64 bx (crs0 ax ay az bx by' bz)) (arI .mul .i64 by' (crs1 ax ay az bx by' bz))) (arI .mul .i64 bz (crs2 ax ay az bx by' bz))) 0) A B) B) A := by
      intro A B hA
      by_cases g : crs3 ax ay az bx by' bz = 0
      · obtain ⟨o1, o2⟩ := orth g
        rw [g, o1, o2, T1, T1, T1]
        exact hA
      · rw [eql_d, decide_eq_false g]
        exact hA
    by_cases g : add3 ax ay az bx by' bz = 0
    · obtain ⟨u1, u2, u3, u4, u5, u6⟩ := addOk g
      have v : in3 (ax + bx - bx) (ay + by' - by') (az + bz - bz) = true := by
        rw [show ax + bx - bx = ax by omega, show ay + by' - by' = ay by omega, show az + bz - bz = az by omega]; exact u1
      have s3 : sub3 (ax + bx) (ay + by') (az + bz) bx by' bz = 0 := by unfold sub3; rw [u3, u2, v]; rfl
      have s0 : sub0 (ax + bx) (ay + by') (az + bz) bx by' bz = ax := by unfold sub0; rw [u3, u2, v]; show ax + bx - bx = ax; omega
      have s1 : sub1 (ax + bx) (ay + by') (az + bz) bx by' bz = ay := by unfold sub1; rw [u3, u2, v]; show ay + by' - by' = ay; omega
      have s2 : sub2 (ax + bx) (ay + by') (az + bz) bx by' bz = az := by unfold sub2; rw [u3, u2, v]; show az + bz - bz = az; omega
      have T2 : ∀ u v w : Int, (cmpI .eql u u && (cmpI .eql v v && cmpI .eql w w)) = true := by intro u v w; simp [eql_d]
      rw [g, T1, u4, u5, u6, s3, s0, s1, s2, T1, T2]
      exact S (R rfl)
    · rw [eql_d (add3 ax ay az bx by' bz), decide_eq_false g]
      exact S (R rfl)
theorem own : ownKnob Try.prog.godebug = none := by kernel_rfl
theorem laidOut : laidOutB Try.prog = true := by kernel_rfl
theorem vectorLaws_lifted (os : Os) (started : os.Started) (H : Type) (enc : TypeId × Value → H) :
    ReturnsInHanded {} Try.checked os 11 .any (Rows.vectorLawsSpec.pre6 enc Try.prog Try.f11 Rows.vectorLawsRow.domain false) (Rows.vectorLawsSpec.post enc Try.prog Try.f11 false true false false) :=
  law_lifted (A := Try.checked) (rt := Try.f11.resultTypes[0]!) own laidOut started Try.func11 (by kernel_rfl) rfl (ss := [(iv 3), (iv 3), (iv 3)]) (by kernel_rfl) (by kernel_rfl) rfl (by kernel_rfl)
    (fun ds hl => by
        match ds, hl with
        | [d1, d2, d3], _ => exact ⟨rfl, rfl, rfl⟩)
    (ChangeSpec.witness6 (enc := enc) (C := Try.checked) false ⟨#[], #[.agg #[.int .i64 0, .int .i64 0, .int .i64 0], .agg #[.int .i64 0, .int .i64 0, .int .i64 0], .agg #[.int .i64 0, .int .i64 0, .int .i64 0]], []⟩ 8 (by kernel_rfl) (by kernel_rfl) (by kernel_rfl) (by kernel_rfl))
    l11
/-- The statement: Sub undoes Add, and the products and the distance obey their laws. -/
theorem vectorLaws_holds : Rows.VectorLawsSaid :=
  OpenClaim.holds_of_wide 11 Try.f11 rfl rfl rfl rfl rfl rfl rfl ⟨rfl, rfl, rfl, rfl, rfl⟩ rfl rfl rfl rfl rfl (by kernel_rfl) Try.func11 (by kernel_rfl)
    (of_decide_eq_true (by kernel_rfl)) (by unfold Func.isWrapper; rw [if_neg (of_decide_eq_false (by kernel_rfl))]; exact ⟨rfl, rfl⟩)
    (fun os started H enc _ => vectorLaws_lifted os started H enc)
end Go.Proofs.Ytoffcodhcbgbdaa
