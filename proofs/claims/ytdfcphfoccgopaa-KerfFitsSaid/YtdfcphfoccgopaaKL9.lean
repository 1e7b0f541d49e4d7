/- The kerf seat, as many slices fit as Most says and no more, and Thickest says the greatest thickness; for every input, without a condition. -/
import Derived.Test.YtdfcphfoccgopaaKF3
import Derived.Test.YtdfcphfoccgopaaRows
namespace Go.Proofs.Ytdfcphfoccgopaa
open Go.Sx
set_option linter.unusedVariables false
set_option linter.unusedSimpArgs false
set_option maxRecDepth 100000
open Go.ChangeShapes Go.WideShapes Go.ChangeAt Go.RowKit
theorem t9 (l : Int) (t : Int) (s : Int) (k : Int) (more : Int) (Q : List Sc → Prop) : (fnT (cfgOf Try.prog sigs [12, 22, 23] [] noLoop) 9 Try.f9 (bodyOf Try.f9) ⟨[i1, i1, i1, i1, i1], [sb], none, none, none⟩ 100).holds Φ [.int l, .int t, .int s, .int k, .int more] (resQ Φ Q) =
  (cond awk0
   (cond (cmpI .lss more 0)
    (Q [.bool true])
    (cond (cmpI .lss 1000 more)
     (Q [.bool true])
     (cond (cmpI .eql (mst1 l t k) 0)
      (cond (cmpI .lss (mst0 l t k) 0)
       (Q [.bool false])
       (cond (cmpI .lss 0 (mst0 l t k))
        (cond (cmpI .lss l (arI .add .i64 (arI .mul .i64 (mst0 l t k) t) (arI .mul .i64 (arI .sub .i64 (mst0 l t k) 1) k)))
         (Q [.bool false])
         (cond (cmpI .lss l (arI .add .i64 (arI .mul .i64 (arI .add .i64 (mst0 l t k) 1) t) (arI .mul .i64 (mst0 l t k) k)))
          (cond (cmpI .eql (mst1 l (arI .add .i64 t more) k) 0)
           (cond (cmpI .lss (mst0 l t k) (mst0 l (arI .add .i64 t more) k))
            (Q [.bool false])
            (cond (cmpI .eql (mst1 l t (arI .add .i64 k more)) 0)
             (cond (cmpI .lss (mst0 l t k) (mst0 l t (arI .add .i64 k more)))
              (Q [.bool false])
              (cond (cmpI .eql (thk1 l s k) 0)
               (cond (cmpI .lss (thk0 l s k) 1)
                (Q [.bool false])
                (cond (cmpI .lss l (arI .add .i64 (arI .mul .i64 s (thk0 l s k)) (arI .mul .i64 (arI .sub .i64 s 1) k)))
                 (Q [.bool false])
                 (Q [.bool (cmpI .lss l (arI .add .i64 (arI .mul .i64 s (arI .add .i64 (thk0 l s k) 1)) (arI .mul .i64 (arI .sub .i64 s 1) k)))])))
               (Q [.bool (cmpI .eql (thk0 l s k) 0)])))
             (cond (cmpI .eql (thk1 l s k) 0)
              (cond (cmpI .lss (thk0 l s k) 1)
               (Q [.bool false])
               (cond (cmpI .lss l (arI .add .i64 (arI .mul .i64 s (thk0 l s k)) (arI .mul .i64 (arI .sub .i64 s 1) k)))
                (Q [.bool false])
                (Q [.bool (cmpI .lss l (arI .add .i64 (arI .mul .i64 s (arI .add .i64 (thk0 l s k) 1)) (arI .mul .i64 (arI .sub .i64 s 1) k)))])))
              (Q [.bool (cmpI .eql (thk0 l s k) 0)]))))
           (cond (cmpI .eql (mst1 l t (arI .add .i64 k more)) 0)
            (cond (cmpI .lss (mst0 l t k) (mst0 l t (arI .add .i64 k more)))
             (Q [.bool false])
             (cond (cmpI .eql (thk1 l s k) 0)
              (cond (cmpI .lss (thk0 l s k) 1)
               (Q [.bool false])
               (cond (cmpI .lss l (arI .add .i64 (arI .mul .i64 s (thk0 l s k)) (arI .mul .i64 (arI .sub .i64 s 1) k)))
                (Q [.bool false])
                (Q [.bool (cmpI .lss l (arI .add .i64 (arI .mul .i64 s (arI .add .i64 (thk0 l s k) 1)) (arI .mul .i64 (arI .sub .i64 s 1) k)))])))
              (Q [.bool (cmpI .eql (thk0 l s k) 0)])))
            (cond (cmpI .eql (thk1 l s k) 0)
             (cond (cmpI .lss (thk0 l s k) 1)
              (Q [.bool false])
              (cond (cmpI .lss l (arI .add .i64 (arI .mul .i64 s (thk0 l s k)) (arI .mul .i64 (arI .sub .i64 s 1) k)))
               (Q [.bool false])
               (Q [.bool (cmpI .lss l (arI .add .i64 (arI .mul .i64 s (arI .add .i64 (thk0 l s k) 1)) (arI .mul .i64 (arI .sub .i64 s 1) k)))])))
             (Q [.bool (cmpI .eql (thk0 l s k) 0)]))))
          (Q [.bool false])))
        (cond (cmpI .lss l (arI .add .i64 (arI .mul .i64 (arI .add .i64 (mst0 l t k) 1) t) (arI .mul .i64 (mst0 l t k) k)))
         (cond (cmpI .eql (mst1 l (arI .add .i64 t more) k) 0)
          (cond (cmpI .lss (mst0 l t k) (mst0 l (arI .add .i64 t more) k))
           (Q [.bool false])
           (cond (cmpI .eql (mst1 l t (arI .add .i64 k more)) 0)
            (cond (cmpI .lss (mst0 l t k) (mst0 l t (arI .add .i64 k more)))
             (Q [.bool false])
             (cond (cmpI .eql (thk1 l s k) 0)
              (cond (cmpI .lss (thk0 l s k) 1)
               (Q [.bool false])
               (cond (cmpI .lss l (arI .add .i64 (arI .mul .i64 s (thk0 l s k)) (arI .mul .i64 (arI .sub .i64 s 1) k)))
                (Q [.bool false])
                (Q [.bool (cmpI .lss l (arI .add .i64 (arI .mul .i64 s (arI .add .i64 (thk0 l s k) 1)) (arI .mul .i64 (arI .sub .i64 s 1) k)))])))
              (Q [.bool (cmpI .eql (thk0 l s k) 0)])))
            (cond (cmpI .eql (thk1 l s k) 0)
             (cond (cmpI .lss (thk0 l s k) 1)
              (Q [.bool false])
              (cond (cmpI .lss l (arI .add .i64 (arI .mul .i64 s (thk0 l s k)) (arI .mul .i64 (arI .sub .i64 s 1) k)))
               (Q [.bool false])
               (Q [.bool (cmpI .lss l (arI .add .i64 (arI .mul .i64 s (arI .add .i64 (thk0 l s k) 1)) (arI .mul .i64 (arI .sub .i64 s 1) k)))])))
             (Q [.bool (cmpI .eql (thk0 l s k) 0)]))))
          (cond (cmpI .eql (mst1 l t (arI .add .i64 k more)) 0)
           (cond (cmpI .lss (mst0 l t k) (mst0 l t (arI .add .i64 k more)))
            (Q [.bool false])
            (cond (cmpI .eql (thk1 l s k) 0)
             (cond (cmpI .lss (thk0 l s k) 1)
              (Q [.bool false])
              (cond (cmpI .lss l (arI .add .i64 (arI .mul .i64 s (thk0 l s k)) (arI .mul .i64 (arI .sub .i64 s 1) k)))
               (Q [.bool false])
               (Q [.bool (cmpI .lss l (arI .add .i64 (arI .mul .i64 s (arI .add .i64 (thk0 l s k) 1)) (arI .mul .i64 (arI .sub .i64 s 1) k)))])))
             (Q [.bool (cmpI .eql (thk0 l s k) 0)])))
           (cond (cmpI .eql (thk1 l s k) 0)
            (cond (cmpI .lss (thk0 l s k) 1)
             (Q [.bool false])
             (cond (cmpI .lss l (arI .add .i64 (arI .mul .i64 s (thk0 l s k)) (arI .mul .i64 (arI .sub .i64 s 1) k)))
              (Q [.bool false])
              (Q [.bool (cmpI .lss l (arI .add .i64 (arI .mul .i64 s (arI .add .i64 (thk0 l s k) 1)) (arI .mul .i64 (arI .sub .i64 s 1) k)))])))
            (Q [.bool (cmpI .eql (thk0 l s k) 0)]))))
         (Q [.bool false]))))
      (cond (cmpI .eql (thk1 l s k) 0)
       (cond (cmpI .lss (thk0 l s k) 1)
        (Q [.bool false])
        (cond (cmpI .lss l (arI .add .i64 (arI .mul .i64 s (thk0 l s k)) (arI .mul .i64 (arI .sub .i64 s 1) k)))
         (Q [.bool false])
         (Q [.bool (cmpI .lss l (arI .add .i64 (arI .mul .i64 s (arI .add .i64 (thk0 l s k) 1)) (arI .mul .i64 (arI .sub .i64 s 1) k)))])))
       (Q [.bool (cmpI .eql (thk0 l s k) 0)])))))
   (Q [.bool false])) := by kernel_rfl
theorem thk_ok {l s k : Int} (h : thkE l s k = 0) : ¬ thkN l s k < 1 ∧ arI .add .i64 (arI .mul .i64 s (thkN l s k)) (arI .mul .i64 (arI .sub .i64 s 1) k) = s * thkN l s k + (s - 1) * k ∧
    arI .add .i64 (arI .mul .i64 s (arI .add .i64 (thkN l s k) 1)) (arI .mul .i64 (arI .sub .i64 s 1) k) = s * (thkN l s k + 1) + (s - 1) * k ∧ ¬ l < s * thkN l s k + (s - 1) * k ∧ l < s * (thkN l s k + 1) + (s - 1) * k := by
  have hc : inL l = true ∧ (1 ≤ s ∧ s ≤ 1000) ∧ inK k = true := by
    apply Decidable.by_contra
    intro hc
    unfold thkE at h
    rw [if_neg hc] at h
    omega
  have h1 : ¬ thkN l s k < 1 := by
    intro h1
    unfold thkE at h
    rw [if_pos hc, if_pos h1] at h
    omega
  simp only [inL_iff, inK_iff] at hc
  have m := mul_bd (a := s) (b := k) (A := 1000) (B := 1000) (by omega) (by omega) (by omega) (by omega)
  have n0 : 0 ≤ l + k - s * k := by
    apply Decidable.by_contra
    intro hn
    have h := Int.neg_tdiv (a := -(l + k - s * k)) (b := s)
    rw [Int.neg_neg] at h
    have h' := Int.tdiv_nonneg (a := -(l + k - s * k)) (b := s) (by omega) (by omega)
    unfold thkN at h1
    omega
  have e : thkN l s k = (l + k - s * k) / s := Int.tdiv_eq_ediv_of_nonneg n0
  have q := tdiv_bd (x := l + k - s * k) (k := s) (B := 10000000) (by omega) (by omega)
  have q' : -10000000 ≤ thkN l s k ∧ thkN l s k ≤ 10000000 := q
  have d := Int.emod_add_mul_ediv (l + k - s * k) s
  have d1 := Int.emod_nonneg (l + k - s * k) (show s ≠ 0 by omega)
  have d2 := Int.emod_lt_of_pos (l + k - s * k) (show 0 < s by omega)
  rw [← e] at d
  generalize thkN l s k = n at *
  have m1 := mul_bd (a := s) (b := n) (A := 1000) (B := 10000000) (by omega) (by omega) (by omega) (by omega)
  have m2 := mul_bd (a := s) (b := n + 1) (A := 1000) (B := 10000001) (by omega) (by omega) (by omega) (by omega)
  have m3 := mul_bd (a := s - 1) (b := k) (A := 1000) (B := 1000) (by omega) (by omega) (by omega) (by omega)
  have s1 : (s - 1) * k = s * k - k := by rw [Int.sub_mul]; omega
  have s2 : s * (n + 1) = s * n + s := by rw [Int.mul_add]; omega
  rw [ar_sub (a := s) (by omega) (by omega), ar_mul (a := s - 1) (by omega) (by omega), ar_mul (a := s) (b := n) (by omega) (by omega), ar_add (a := n) (by omega) (by omega), ar_mul (a := s) (b := n + 1) (by omega) (by omega), ar_add (by omega) (by omega), ar_add (by omega) (by omega)]
  refine ⟨by omega, rfl, rfl, by omega, by omega⟩
theorem mst_in {l t k : Int} : mstE l t k = 0 ↔ inL l = true ∧ inL t = true ∧ inK k = true := by
  unfold mstE
  split <;> simp_all
theorem mst_ok {l t k : Int} (h : mstE l t k = 0) : ¬ (l + k) / (t + k) < 0 ∧
    (0 < (l + k) / (t + k) → ¬ l < arI .add .i64 (arI .mul .i64 ((l + k) / (t + k)) t) (arI .mul .i64 (arI .sub .i64 ((l + k) / (t + k)) 1) k)) ∧
    l < arI .add .i64 (arI .mul .i64 (arI .add .i64 ((l + k) / (t + k)) 1) t) (arI .mul .i64 ((l + k) / (t + k)) k) := by
  have hc := mst_in.1 h
  simp only [inL_iff, inK_iff] at hc
  have q := tdiv_bd (x := l + k) (k := t + k) (B := 3000000) (by omega) (by omega)
  rw [Int.tdiv_eq_ediv_of_nonneg (by omega)] at q
  have n0 : 0 ≤ (l + k) / (t + k) := Int.ediv_nonneg (by omega) (by omega)
  have d := Int.emod_add_mul_ediv (l + k) (t + k)
  have d1 := Int.emod_nonneg (l + k) (show t + k ≠ 0 by omega)
  have d2 := Int.emod_lt_of_pos (l + k) (show 0 < t + k by omega)
  generalize (l + k) / (t + k) = n at *
  have m1 := mul_bd (a := n) (b := t) (A := 3000000) (B := 2000000) (by omega) (by omega) (by omega) (by omega)
  have m2 := mul_bd (a := n + 1) (b := t) (A := 3000001) (B := 2000000) (by omega) (by omega) (by omega) (by omega)
  have m3 := mul_bd (a := n) (b := k) (A := 3000000) (B := 1000) (by omega) (by omega) (by omega) (by omega)
  have m4 := mul_bd (a := n - 1) (b := k) (A := 3000000) (B := 1000) (by omega) (by omega) (by omega) (by omega)
  have s1 : (n - 1) * k = n * k - k := by rw [Int.sub_mul]; omega
  have s2 : (n + 1) * t = n * t + t := by rw [Int.add_mul]; omega
  have s3 : (t + k) * n = n * t + n * k := by rw [Int.add_mul, Int.mul_comm t, Int.mul_comm k]
  rw [ar_sub (a := n) (by omega) (by omega), ar_mul (a := n - 1) (by omega) (by omega), ar_mul (a := n) (b := t) (by omega) (by omega), ar_add (a := n) (by omega) (by omega), ar_mul (a := n + 1) (b := t) (by omega) (by omega), ar_mul (a := n) (b := k) (by omega) (by omega), ar_add (by omega) (by omega), ar_add (by omega) (by omega)]
  refine ⟨by omega, fun _ => by omega, by omega⟩
theorem mst_more {l t k m : Int} (h : mstE l t k = 0) (h0 : 0 ≤ m) : ¬ (l + k) / (t + k) < (l + k) / (t + m + k) ∧ ¬ (l + k) / (t + k) < (l + (k + m)) / (t + (k + m)) := by
  have hc := mst_in.1 h
  simp only [inL_iff, inK_iff] at hc
  have n0 : 0 ≤ (l + k) / (t + k) := Int.ediv_nonneg (by omega) (by omega)
  have key : ∀ L D : Int, 0 < D → L < ((l + k) / (t + k) + 1) * D → ¬ (l + k) / (t + k) < L / D := by
    intro L D hD hL hc
    have h1 : (l + k) / (t + k) + 1 ≤ L / D := by omega
    rw [Int.le_ediv_iff_mul_le hD] at h1
    omega
  have d := Int.emod_add_mul_ediv (l + k) (t + k)
  have d2 := Int.emod_lt_of_pos (l + k) (show 0 < t + k by omega)
  have base : l + k < ((l + k) / (t + k) + 1) * (t + k) := by
    rw [Int.add_mul, Int.one_mul, Int.mul_comm]
    omega
  generalize (l + k) / (t + k) = n at *
  have hm : m ≤ (n + 1) * m := by
    have := Int.mul_nonneg n0 h0
    rw [Int.add_mul, Int.one_mul]
    omega
  constructor
  · apply key _ _ (by omega)
    have : t + m + k = t + k + m := by omega
    rw [this, Int.mul_add (n + 1)]
    omega
  · apply key _ _ (by omega)
    have : t + (k + m) = t + k + m := by omega
    rw [this, Int.mul_add (n + 1)]
    omega

theorem l9 : ∀ l, InRange [i1, i1, i1, i1, i1] l → ∀ W, GG W → Calls Try.prog 9 (packs [i1, i1, i1, i1, i1] l).toArray W fun e w' => e = .returned (.bool true) ∧ Below W.heap.size W w' :=
  law_of [12, 22, 23] [] noLoop 100 mixed Try.func9 (by kernel_rfl) (forall_cons c12 (forall_cons c22 (forall_cons c23 forall_nil))) fun l0 hl0 => by
    obtain ⟨l, l1, rfl, r0, hl1⟩ := range_i64 hl0
    obtain ⟨t, l2, rfl, r1, hl2⟩ := range_i64 hl1
    obtain ⟨s, l3, rfl, r2, hl3⟩ := range_i64 hl2
    obtain ⟨k, l4, rfl, r3, hl4⟩ := range_i64 hl3
    obtain ⟨more, l5, rfl, r4, hl5⟩ := range_i64 hl4
    cases range_nil hl5
    clear hl5 hl4 hl3 hl2 hl1 hl0
    show T.holds _ _ _ (resQ Φ fun rs => rs = [.bool true])
    rw [t9]
    have ha : awk0 = true := rfl
    rw [ha]
    simp only [mst0, mst1, thk0, thk1, eql_d, lss_d]
    by_cases m1 : more < 0
    · simp [m1]
    · by_cases m2 : 1000 < more
      · simp [m1, m2]
      · have K : cond (decide (thkE l s k = 0)) (cond (decide ((if thkE l s k = 0 then thkN l s k else 0) < 1)) ([Sc.bool false] = [Sc.bool true])
            (cond (decide (l < arI .add .i64 (arI .mul .i64 s (if thkE l s k = 0 then thkN l s k else 0)) (arI .mul .i64 (arI .sub .i64 s 1) k))) ([Sc.bool false] = [Sc.bool true])
              ([Sc.bool (decide (l < arI .add .i64 (arI .mul .i64 s (arI .add .i64 (if thkE l s k = 0 then thkN l s k else 0) 1)) (arI .mul .i64 (arI .sub .i64 s 1) k)))] = [Sc.bool true])))
            ([Sc.bool (decide ((if thkE l s k = 0 then thkN l s k else 0) = 0))] = [Sc.bool true]) := by
          by_cases hT : thkE l s k = 0
          · obtain ⟨w1, w2, w3, w4, w5⟩ := thk_ok hT
            simp only [if_pos hT, w2, w3]
            simp [hT, w1, w4, w5]
          · simp [hT]
        generalize cond (decide (thkE l s k = 0)) _ _ = KK at K ⊢
        by_cases hM : mstE l t k = 0
        · obtain ⟨u1, u2, u3⟩ := mst_ok hM
          obtain ⟨x1, x2⟩ := mst_more (m := more) hM (by omega)
          have hc := mst_in.1 hM
          simp only [inL_iff, inK_iff] at hc
          rw [ar_add (a := t) (by omega) (by omega), ar_add (a := k) (by omega) (by omega)]
          simp only [if_pos hM]
          by_cases p0 : 0 < (l + k) / (t + k)
          · have u2' := u2 p0
            by_cases e1 : mstE l (t + more) k = 0 <;> by_cases e2 : mstE l t (k + more) = 0 <;> simp [m1, m2, hM, u1, p0, u2', u3, e1, e2, x1, x2, K]
          · by_cases e1 : mstE l (t + more) k = 0 <;> by_cases e2 : mstE l t (k + more) = 0 <;> simp [m1, m2, hM, u1, p0, u3, e1, e2, x1, x2, K]
        · simp [m1, m2, hM, K]
theorem own : ownKnob Try.prog.godebug = none := by kernel_rfl
theorem laidOut : laidOutB Try.prog = true := by kernel_rfl
theorem kerfFits_lifted (os : Os) (started : os.Started) (H : Type) (enc : TypeId × Value → H) :
    ReturnsInHanded {} Try.checked os 9 .any (Rows.kerfFitsSpec.pre6 enc Try.prog Try.f9 Rows.kerfFitsRow.domain false) (Rows.kerfFitsSpec.post enc Try.prog Try.f9 false true false false) :=
  law_lifted (A := Try.checked) (rt := Try.f9.resultTypes[0]!) own laidOut started Try.func9 (by kernel_rfl) rfl (ss := [i1, i1, i1, i1, i1]) (by kernel_rfl) (by kernel_rfl) rfl (by kernel_rfl)
    (fun ds hl => by
        match ds, hl with
        | [d1, d2, d3, d4, d5], _ => exact ⟨rfl, rfl, rfl⟩)
    (ChangeSpec.witness6 (enc := enc) (C := Try.checked) false ⟨#[], #[.int .i64 0, .int .i64 0, .int .i64 0, .int .i64 0, .int .i64 0], []⟩ 8 (by kernel_rfl) (by kernel_rfl) (by kernel_rfl) (by kernel_rfl))
    l9 (fun _ => trivial)
/-- The statement: as many slices fit as Most says and no more, and Thickest says the greatest thickness. -/
theorem kerfFits_holds : Rows.KerfFitsSaid :=
  OpenClaim.holds_of_wide 9 Try.f9 rfl rfl rfl rfl rfl rfl rfl ⟨rfl, rfl, rfl, rfl, rfl⟩ rfl rfl rfl rfl rfl (by kernel_rfl) Try.func9 (by kernel_rfl)
    (of_decide_eq_true (by kernel_rfl)) (by unfold Func.isWrapper; rw [if_neg (of_decide_eq_false (by kernel_rfl))]; exact ⟨rfl, rfl⟩)
    (fun os started H enc _ => kerfFits_lifted os started H enc)
end Go.Proofs.Ytdfcphfoccgopaa
