/- The kerf seat, for all numbers Most and Thickest answer as the reference does, or with the stated error; for every input, without a condition. -/
import Derived.Test.YtdfcphfoccgopaaKF3
import Derived.Test.YtdfcphfoccgopaaRows
namespace Go.Proofs.Ytdfcphfoccgopaa
open Go.Sx
set_option linter.unusedVariables false
set_option linter.unusedSimpArgs false
set_option maxRecDepth 100000
open Go.ChangeShapes Go.WideShapes Go.ChangeAt Go.RowKit
theorem t5 (l : Int) (t : Int) (s : Int) (k : Int) (Q : List Sc → Prop) : (fnT (cfgOf Try.prog sigs [12, 22, 23, 24, 25, 26, 27] [] noLoop) 5 Try.f5 (bodyOf Try.f5) ⟨[i1, i1, i1, i1], [sb], none, none, none⟩ 100).holds Φ [.int l, .int t, .int s, .int k] (resQ Φ Q) =
  (cond awk0
   (cond (rLen0 l)
    (cond (rLen0 t)
     (cond (rKrf0 k)
      (cond (cmpI .eql (mst1 l t k) 0)
       (cond (rMstP l t k)
       (cond (cmpI .eql (mst0 l t k) (rMst0 l t k))
        (cond (rLen0 l)
         (cond (cmpI .lss s 1)
          (cond (cmpI .eql (thk1 l s k) 6)
           (Q [.bool (cmpI .eql (thk0 l s k) 0)])
           (Q [.bool false]))
          (cond (cmpI .lss 1000 s)
           (cond (cmpI .eql (thk1 l s k) 6)
            (Q [.bool (cmpI .eql (thk0 l s k) 0)])
            (Q [.bool false]))
           (cond (rKrf0 k)
            (cond (rThkP l s k)
            (cond (cmpI .lss (rThk0 l s k) 1)
             (cond (cmpI .eql (thk1 l s k) 9)
              (Q [.bool (cmpI .eql (thk0 l s k) 0)])
              (Q [.bool false]))
             (cond (cmpI .eql (thk1 l s k) 0)
              (Q [.bool (cmpI .eql (thk0 l s k) (rThk0 l s k))])
              (Q [.bool false])))
            False)
            (cond (cmpI .eql (thk1 l s k) 6)
             (Q [.bool (cmpI .eql (thk0 l s k) 0)])
             (Q [.bool false])))))
         (cond (cmpI .eql (thk1 l s k) 6)
          (Q [.bool (cmpI .eql (thk0 l s k) 0)])
          (Q [.bool false])))
        (Q [.bool false]))
       False)
       (Q [.bool false]))
      (cond (cmpI .eql (mst1 l t k) 6)
       (cond (cmpI .eql (mst0 l t k) 0)
        (cond (rLen0 l)
         (cond (cmpI .lss s 1)
          (cond (cmpI .eql (thk1 l s k) 6)
           (Q [.bool (cmpI .eql (thk0 l s k) 0)])
           (Q [.bool false]))
          (cond (cmpI .lss 1000 s)
           (cond (cmpI .eql (thk1 l s k) 6)
            (Q [.bool (cmpI .eql (thk0 l s k) 0)])
            (Q [.bool false]))
           (cond (rKrf0 k)
            (cond (rThkP l s k)
            (cond (cmpI .lss (rThk0 l s k) 1)
             (cond (cmpI .eql (thk1 l s k) 9)
              (Q [.bool (cmpI .eql (thk0 l s k) 0)])
              (Q [.bool false]))
             (cond (cmpI .eql (thk1 l s k) 0)
              (Q [.bool (cmpI .eql (thk0 l s k) (rThk0 l s k))])
              (Q [.bool false])))
            False)
            (cond (cmpI .eql (thk1 l s k) 6)
             (Q [.bool (cmpI .eql (thk0 l s k) 0)])
             (Q [.bool false])))))
         (cond (cmpI .eql (thk1 l s k) 6)
          (Q [.bool (cmpI .eql (thk0 l s k) 0)])
          (Q [.bool false])))
        (Q [.bool false]))
       (Q [.bool false])))
     (cond (cmpI .eql (mst1 l t k) 6)
      (cond (cmpI .eql (mst0 l t k) 0)
       (cond (rLen0 l)
        (cond (cmpI .lss s 1)
         (cond (cmpI .eql (thk1 l s k) 6)
          (Q [.bool (cmpI .eql (thk0 l s k) 0)])
          (Q [.bool false]))
         (cond (cmpI .lss 1000 s)
          (cond (cmpI .eql (thk1 l s k) 6)
           (Q [.bool (cmpI .eql (thk0 l s k) 0)])
           (Q [.bool false]))
          (cond (rKrf0 k)
           (cond (rThkP l s k)
           (cond (cmpI .lss (rThk0 l s k) 1)
            (cond (cmpI .eql (thk1 l s k) 9)
             (Q [.bool (cmpI .eql (thk0 l s k) 0)])
             (Q [.bool false]))
            (cond (cmpI .eql (thk1 l s k) 0)
             (Q [.bool (cmpI .eql (thk0 l s k) (rThk0 l s k))])
             (Q [.bool false])))
           False)
           (cond (cmpI .eql (thk1 l s k) 6)
            (Q [.bool (cmpI .eql (thk0 l s k) 0)])
            (Q [.bool false])))))
        (cond (cmpI .eql (thk1 l s k) 6)
         (Q [.bool (cmpI .eql (thk0 l s k) 0)])
         (Q [.bool false])))
       (Q [.bool false]))
      (Q [.bool false])))
    (cond (cmpI .eql (mst1 l t k) 6)
     (cond (cmpI .eql (mst0 l t k) 0)
      (cond (rLen0 l)
       (cond (cmpI .lss s 1)
        (cond (cmpI .eql (thk1 l s k) 6)
         (Q [.bool (cmpI .eql (thk0 l s k) 0)])
         (Q [.bool false]))
        (cond (cmpI .lss 1000 s)
         (cond (cmpI .eql (thk1 l s k) 6)
          (Q [.bool (cmpI .eql (thk0 l s k) 0)])
          (Q [.bool false]))
         (cond (rKrf0 k)
          (cond (rThkP l s k)
          (cond (cmpI .lss (rThk0 l s k) 1)
           (cond (cmpI .eql (thk1 l s k) 9)
            (Q [.bool (cmpI .eql (thk0 l s k) 0)])
            (Q [.bool false]))
           (cond (cmpI .eql (thk1 l s k) 0)
            (Q [.bool (cmpI .eql (thk0 l s k) (rThk0 l s k))])
            (Q [.bool false])))
          False)
          (cond (cmpI .eql (thk1 l s k) 6)
           (Q [.bool (cmpI .eql (thk0 l s k) 0)])
           (Q [.bool false])))))
       (cond (cmpI .eql (thk1 l s k) 6)
        (Q [.bool (cmpI .eql (thk0 l s k) 0)])
        (Q [.bool false])))
      (Q [.bool false]))
     (Q [.bool false])))
   (Q [.bool false])) := by kernel_rfl

theorem l5 : ∀ l, InRange [i1, i1, i1, i1] l → ∀ W, GG W → Calls Try.prog 5 (packs [i1, i1, i1, i1] l).toArray W fun e w' => e = .returned (.bool true) ∧ Below W.heap.size W w' :=
  law_of [12, 22, 23, 24, 25, 26, 27] [] noLoop 100 mixed Try.func5 (by kernel_rfl) (forall_cons c12 (forall_cons c22 (forall_cons c23 (forall_cons c24 (forall_cons c25 (forall_cons c26 (forall_cons c27 forall_nil))))))) fun l0 hl0 => by
    obtain ⟨l, l1, rfl, r0, hl1⟩ := range_i64 hl0
    obtain ⟨t, l2, rfl, r1, hl2⟩ := range_i64 hl1
    obtain ⟨s, l3, rfl, r2, hl3⟩ := range_i64 hl2
    obtain ⟨k, l4, rfl, r3, hl4⟩ := range_i64 hl3
    cases range_nil hl4
    clear hl4 hl3 hl2 hl1 hl0
    show T.holds _ _ _ (resQ Φ fun rs => rs = [.bool true])
    rw [t5]
    have ha : awk0 = true := rfl
    rw [ha]
    simp only [rLen0, rKrf0, mst0, mst1, mstE, rMst0, thk0, thk1, thkE, rThk0, eql_d, lss_d]
    have key : ∀ A B : Prop, (s < 1 ∨ 1000 < s ∨ (1 ≤ s ∧ s ≤ 1000)) := fun _ _ => by omega
    by_cases h1 : inL l = true
    · have hS : s < 1 ∨ 1000 < s ∨ (1 ≤ s ∧ s ≤ 1000) := by omega
      by_cases h3 : inK k = true
      · have hM : inL t = true → rMstP l t k = true := fun h2 => by unfold rMstP; rw [h1, h2, h3]; rfl
        have hT : 1 ≤ s → s ≤ 1000 → rThkP l s k = true := fun a b => by unfold rThkP; rw [h1, h3, decide_eq_true a, decide_eq_true b]; rfl
        have hQ : 1 ≤ s → s ≤ 1000 → thkN l s k = if l - (s - 1) * k < 0 then (l - (s - 1) * k).tdiv s else (l - (s - 1) * k) / s := fun a b => by
          have e : l + k - s * k = l - (s - 1) * k := by rw [Int.sub_mul]; omega
          unfold thkN
          rw [e]
          split
          · rfl
          · exact Int.tdiv_eq_ediv_of_nonneg (by omega)
        have hN : l - (s - 1) * k < 0 → 1 ≤ s → (l - (s - 1) * k).tdiv s < 1 := fun a b => by
          have h := Int.neg_tdiv (a := -(l - (s - 1) * k)) (b := s)
          rw [Int.neg_neg] at h
          have h' := Int.tdiv_nonneg (a := -(l - (s - 1) * k)) (b := s) (by omega) (by omega)
          omega
        by_cases h2 : inL t = true
        · rw [hM h2]
          rcases hS with s1 | s1 | ⟨s1, s2⟩
          · have n1 : ¬ 1 ≤ s := by omega
            simp [h1, h2, h3, s1, n1]
          · have n1 : ¬ s < 1 := by omega
            have n2 : ¬ s ≤ 1000 := by omega
            simp [h1, h2, h3, s1, n1, n2]
          · have n1 : ¬ s < 1 := by omega
            have n2 : ¬ 1000 < s := by omega
            have hq := hQ s1 s2
            rw [hT s1 s2]
            by_cases g : l - (s - 1) * k < 0
            · have gn := hN g s1
              rw [if_pos g] at hq
              simp [h1, h2, h3, s1, s2, n1, n2, g, gn, hq]
            · rw [if_neg g] at hq
              by_cases q : (l - (s - 1) * k) / s < 1 <;> simp [h1, h2, h3, s1, s2, n1, n2, g, q, hq]
        · rcases hS with s1 | s1 | ⟨s1, s2⟩
          · have n1 : ¬ 1 ≤ s := by omega
            simp [h1, h2, h3, s1, n1]
          · have n1 : ¬ s < 1 := by omega
            have n2 : ¬ s ≤ 1000 := by omega
            simp [h1, h2, h3, s1, n1, n2]
          · have n1 : ¬ s < 1 := by omega
            have n2 : ¬ 1000 < s := by omega
            have hq := hQ s1 s2
            rw [hT s1 s2]
            by_cases g : l - (s - 1) * k < 0
            · have gn := hN g s1
              rw [if_pos g] at hq
              simp [h1, h2, h3, s1, s2, n1, n2, g, gn, hq]
            · rw [if_neg g] at hq
              by_cases q : (l - (s - 1) * k) / s < 1 <;> simp [h1, h2, h3, s1, s2, n1, n2, g, q, hq]
      · by_cases h2 : inL t = true
        · rcases hS with s1 | s1 | ⟨s1, s2⟩
          · simp [h1, h2, h3, s1]
          · have n1 : ¬ s < 1 := by omega
            simp [h1, h2, h3, s1, n1]
          · have n1 : ¬ s < 1 := by omega
            have n2 : ¬ 1000 < s := by omega
            simp [h1, h2, h3, n1, n2]
        · rcases hS with s1 | s1 | ⟨s1, s2⟩
          · simp [h1, h2, h3, s1]
          · have n1 : ¬ s < 1 := by omega
            simp [h1, h2, h3, s1, n1]
          · have n1 : ¬ s < 1 := by omega
            have n2 : ¬ 1000 < s := by omega
            simp [h1, h2, h3, n1, n2]
    · simp [h1]
theorem own : ownKnob Try.prog.godebug = none := by kernel_rfl
theorem laidOut : laidOutB Try.prog = true := by kernel_rfl
theorem kerfCounts_lifted (os : Os) (started : os.Started) (H : Type) (enc : TypeId × Value → H) :
    ReturnsInHanded {} Try.checked os 5 .any (Rows.kerfCountsSpec.pre6 enc Try.prog Try.f5 Rows.kerfCountsRow.domain false) (Rows.kerfCountsSpec.post enc Try.prog Try.f5 false true false false) :=
  law_lifted (A := Try.checked) (rt := Try.f5.resultTypes[0]!) own laidOut started Try.func5 (by kernel_rfl) rfl (ss := [i1, i1, i1, i1]) (by kernel_rfl) (by kernel_rfl) rfl (by kernel_rfl)
    (fun ds hl => by
        match ds, hl with
        | [d1, d2, d3, d4], _ => exact ⟨rfl, rfl, rfl⟩)
    (ChangeSpec.witness6 (enc := enc) (C := Try.checked) false ⟨#[], #[.int .i64 0, .int .i64 0, .int .i64 0, .int .i64 0], []⟩ 8 (by kernel_rfl) (by kernel_rfl) (by kernel_rfl) (by kernel_rfl))
    l5 (fun _ => trivial)
/-- The statement: for all numbers Most and Thickest answer as the reference does, or with the stated error. -/
theorem kerfCounts_holds : Rows.KerfCountsSaid :=
  OpenClaim.holds_of_wide 5 Try.f5 rfl rfl rfl rfl rfl rfl rfl ⟨rfl, rfl, rfl, rfl, rfl⟩ rfl rfl rfl rfl rfl (by kernel_rfl) Try.func5 (by kernel_rfl)
    (of_decide_eq_true (by kernel_rfl)) (by unfold Func.isWrapper; rw [if_neg (of_decide_eq_false (by kernel_rfl))]; exact ⟨rfl, rfl⟩)
    (fun os started H enc _ => kerfCounts_lifted os started H enc)
end Go.Proofs.Ytdfcphfoccgopaa
