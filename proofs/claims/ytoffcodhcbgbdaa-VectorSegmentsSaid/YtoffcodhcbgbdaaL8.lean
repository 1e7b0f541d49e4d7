/- The vector seat: in the vector seat, Turn changes its sign, On and Meet agree, and Meet does not depend on the order of its arguments; for every input, without a condition. -/
import Derived.Test.YtoffcodhcbgbdaaG2
import Derived.Test.YtoffcodhcbgbdaaRows
namespace Go.Proofs.Ytoffcodhcbgbdaa
open Go.Sx
set_option linter.unusedVariables false
set_option linter.unusedSimpArgs false
set_option maxRecDepth 100000
open Go.ChangeShapes Go.WideShapes Go.ChangeAt Go.RowKit
theorem t8 (ax : Int) (ay : Int) (bx : Int) (by' : Int) (cx : Int) (cy : Int) (dx : Int) (dy : Int) (Q : List Sc → Prop) : (fnT (cfgOf Try.prog sigs [12, 16, 17, 21] [41, 51, 53, 52] noLoop) 8 Try.f8 (bodyOf Try.f8) ⟨[(iv 2), (iv 2), (iv 2), (iv 2)], [b1]⟩ 100).holds Φ [.int ax, .int ay, .int bx, .int by', .int cx, .int cy, .int dx, .int dy] (resQ Φ Q) =
  (cond awk0
   (cond (cmpI .eql (tn1 ax ay bx by' cx cy) (tn1 ax ay cx cy bx by'))
    (cond (cmpI .eql (tn1 ax ay bx by' cx cy) (tn1 bx by' cx cy ax ay))
     (cond (cmpI .eql (tn0 ax ay bx by' cx cy) (arI .sub .i64 0 (tn0 ax ay cx cy bx by')))
      (cond (cmpI .eql (tn0 ax ay bx by' cx cy) (tn0 bx by' cx cy ax ay))
       (cond (cmpI .eql (onn1 ax ay bx by' cx cy) (met1 ax ay bx by' cx cy cx cy))
        (cond ((onn0 ax ay bx by' cx cy) == (cmpI .eql (met0 ax ay bx by' cx cy cx cy) 1))
         (cond (cmpI .eql (met1 ax ay bx by' cx cy dx dy) (met1 dx dy cx cy ax ay bx by'))
          (cond (cmpI .eql (met1 ax ay bx by' cx cy dx dy) (met1 bx by' ax ay dx dy cx cy))
           (cond (cmpI .eql (met0 ax ay bx by' cx cy dx dy) (met0 dx dy cx cy ax ay bx by'))
            (cond (cmpI .eql (met0 ax ay bx by' cx cy dx dy) (met0 bx by' ax ay dx dy cx cy))
             (cond (cmpI .eql (met1 ax ay bx by' ax ay bx by') 0)
              (cond (cmpI .eql (met0 ax ay bx by' ax ay bx by') 1)
               (cond ((cmpI .eql ax bx) && (cmpI .eql ay by'))
                (Q [.bool true])
                (Q [.bool false]))
               (cond (cmpI .eql (met0 ax ay bx by' ax ay bx by') 2)
                (Q [.bool (!((cmpI .eql ax bx) && (cmpI .eql ay by')))])
                (Q [.bool false])))
              (Q [.bool true]))
             (Q [.bool false]))
            (Q [.bool false]))
           (Q [.bool false]))
          (Q [.bool false]))
         (Q [.bool false]))
        (Q [.bool false]))
       (Q [.bool false]))
      (Q [.bool false]))
     (Q [.bool false]))
    (Q [.bool false]))
   (Q [.bool false])) := by kernel_rfl
theorem tn1_turn (ax ay bx by' cx cy : Int) : tn1 ax ay cx cy bx by' = tn1 ax ay bx by' cx cy := by
  unfold tn1
  generalize in2 ax ay = p
  generalize in2 bx by' = q
  generalize in2 cx cy = r
  cases p <;> cases q <;> cases r <;> rfl
theorem tn1_rot (ax ay bx by' cx cy : Int) : tn1 bx by' cx cy ax ay = tn1 ax ay bx by' cx cy := by
  unfold tn1
  generalize in2 ax ay = p
  generalize in2 bx by' = q
  generalize in2 cx cy = r
  cases p <;> cases q <;> cases r <;> rfl
theorem tn0_in {ax ay bx by' cx cy : Int} (h1 : in2 ax ay = true) (h2 : in2 bx by' = true) (h3 : in2 cx cy = true) : tn0 ax ay bx by' cx cy = sgn (cr ax ay bx by' cx cy) := by
  unfold tn0
  rw [h1, h2, h3, ← tur_eq h1 h2 h3]
  rfl
theorem tn0_out {ax ay bx by' cx cy : Int} (h : ¬ (in2 ax ay = true ∧ in2 bx by' = true ∧ in2 cx cy = true)) : tn0 ax ay bx by' cx cy = 0 := by
  unfold tn0
  refine if_neg fun c => h ?_
  simp only [Bool.and_eq_true] at c
  exact ⟨c.1.1, c.1.2, c.2⟩
theorem tn0_turn (ax ay bx by' cx cy : Int) : arI .sub .i64 0 (tn0 ax ay cx cy bx by') = tn0 ax ay bx by' cx cy := by
  by_cases h : in2 ax ay = true ∧ in2 bx by' = true ∧ in2 cx cy = true
  · obtain ⟨h1, h2, h3⟩ := h
    rw [tn0_in h1 h2 h3, tn0_in h1 h3 h2, cr_turn, sgn_neg]
    have := sgn_bd (cr ax ay bx by' cx cy)
    rw [ar_sub (by omega) (by omega)]
    omega
  · rw [tn0_out h, tn0_out (fun c => h ⟨c.1, c.2.2, c.2.1⟩)]
    kernel_rfl
theorem tn0_rot (ax ay bx by' cx cy : Int) : tn0 bx by' cx cy ax ay = tn0 ax ay bx by' cx cy := by
  by_cases h : in2 ax ay = true ∧ in2 bx by' = true ∧ in2 cx cy = true
  · obtain ⟨h1, h2, h3⟩ := h
    rw [tn0_in h1 h2 h3, tn0_in h2 h3 h1, cr_rot]
  · rw [tn0_out h, tn0_out (fun c => h ⟨c.2.2, c.1, c.2.1⟩)]
theorem met1_on (ax ay bx by' cx cy : Int) : met1 ax ay bx by' cx cy cx cy = onn1 ax ay bx by' cx cy := by
  unfold met1 onn1
  rw [Bool.and_assoc, Bool.and_self]
theorem met0_on (ax ay bx by' cx cy : Int) : cmpI .eql (met0 ax ay bx by' cx cy cx cy) 1 = onn0 ax ay bx by' cx cy := by
  unfold met0 onn0
  rw [Bool.and_assoc (in2 ax ay && in2 bx by'), Bool.and_self]
  by_cases hb : (in2 ax ay && in2 bx by' && in2 cx cy) = true
  · rw [if_pos hb, hb, Bool.true_and]
    unfold meetS
    by_cases e : ax = bx ∧ ay = by'
    · rw [if_pos e]
      obtain ⟨rfl, rfl⟩ := e
      rw [ons_deg, ons_deg, one_if]
      by_cases f : ax = cx ∧ ay = cy
      · obtain ⟨rfl, rfl⟩ := f
        simp [eql_d]
      · have f' : ¬ (cx = ax ∧ cy = ay) := fun h => f ⟨h.1.symm, h.2.symm⟩
        rw [decide_eq_false f, decide_eq_false f']
        simp [eql_d]
    · rw [if_neg e, if_pos ⟨rfl, rfl⟩, one_if]
      cases ons0 ax ay bx by' cx cy <;> simp [eql_d]
  · rw [if_neg hb]
    have : (in2 ax ay && in2 bx by' && in2 cx cy) = false := by simpa using hb
    rw [this, Bool.false_and]
    rfl
theorem met1_ex (ax ay bx by' cx cy dx dy : Int) : met1 dx dy cx cy ax ay bx by' = met1 ax ay bx by' cx cy dx dy := by
  unfold met1
  generalize in2 ax ay = p
  generalize in2 bx by' = q
  generalize in2 cx cy = r
  generalize in2 dx dy = s
  cases p <;> cases q <;> cases r <;> cases s <;> rfl
theorem met1_sw (ax ay bx by' cx cy dx dy : Int) : met1 bx by' ax ay dx dy cx cy = met1 ax ay bx by' cx cy dx dy := by
  unfold met1
  generalize in2 ax ay = p
  generalize in2 bx by' = q
  generalize in2 cx cy = r
  generalize in2 dx dy = s
  cases p <;> cases q <;> cases r <;> cases s <;> rfl
theorem met0_in {ax ay bx by' cx cy dx dy : Int} (h1 : in2 ax ay = true) (h2 : in2 bx by' = true) (h3 : in2 cx cy = true) (h4 : in2 dx dy = true) : met0 ax ay bx by' cx cy dx dy = meetE ax ay bx by' cx cy dx dy := by
  unfold met0
  rw [h1, h2, h3, h4, ← meet_exact h1 h2 h3 h4]
  rfl
theorem met0_out {ax ay bx by' cx cy dx dy : Int} (h : ¬ (in2 ax ay = true ∧ in2 bx by' = true ∧ in2 cx cy = true ∧ in2 dx dy = true)) : met0 ax ay bx by' cx cy dx dy = 0 := by
  unfold met0
  refine if_neg fun c => h ?_
  simp only [Bool.and_eq_true] at c
  exact ⟨c.1.1.1, c.1.1.2, c.1.2, c.2⟩
theorem met0_ex (ax ay bx by' cx cy dx dy : Int) : met0 dx dy cx cy ax ay bx by' = met0 ax ay bx by' cx cy dx dy := by
  by_cases h : in2 ax ay = true ∧ in2 bx by' = true ∧ in2 cx cy = true ∧ in2 dx dy = true
  · obtain ⟨h1, h2, h3, h4⟩ := h
    rw [met0_in h1 h2 h3 h4, met0_in h4 h3 h1 h2, meet_ex h1 h2 h3 h4]
  · rw [met0_out h, met0_out (fun c => h ⟨c.2.2.1, c.2.2.2, c.2.1, c.1⟩)]
theorem met0_sw (ax ay bx by' cx cy dx dy : Int) : met0 bx by' ax ay dx dy cx cy = met0 ax ay bx by' cx cy dx dy := by
  by_cases h : in2 ax ay = true ∧ in2 bx by' = true ∧ in2 cx cy = true ∧ in2 dx dy = true
  · obtain ⟨h1, h2, h3, h4⟩ := h
    rw [met0_in h1 h2 h3 h4, met0_in h2 h1 h4 h3, meet_sw h1 h2 h3 h4]
  · rw [met0_out h, met0_out (fun c => h ⟨c.2.1, c.1, c.2.2.2, c.2.2.1⟩)]
theorem spans_self {u v : Int} (h : u ≠ v) : spans u v u v = 2 := by
  unfold spans
  rw [mn_self, mx_self]
  unfold mxI mnI
  repeat' split
  all_goals omega
theorem met_self {ax ay bx by' : Int} (h : met1 ax ay bx by' ax ay bx by' = 0) : met0 ax ay bx by' ax ay bx by' = if ax = bx ∧ ay = by' then 1 else 2 := by
  unfold met1 at h
  by_cases c : (in2 ax ay && in2 bx by' && in2 ax ay && in2 bx by') = true
  · have d := c
    simp only [Bool.and_eq_true] at d
    rw [met0_in d.1.1.1 d.1.1.2 d.1.1.1 d.1.1.2]
    unfold meetE
    by_cases e : ax = bx ∧ ay = by'
    · rw [if_pos e, if_pos e]
      obtain ⟨rfl, rfl⟩ := e
      rw [ons_deg, one_if]
      simp
    · rw [if_neg e, if_neg e, if_neg e]
      have c1 : cr ax ay bx by' ax ay = 0 := by unfold cr; rw [Int.sub_self, Int.sub_self, Int.mul_zero, Int.mul_zero]; rfl
      have c2 : cr ax ay bx by' bx by' = 0 := by unfold cr; rw [Int.mul_comm]; omega
      rw [if_pos ⟨c1, c2⟩]
      by_cases f : ax = bx
      · rw [if_pos f, spans_self (fun h => e ⟨f, h⟩)]
      · rw [if_neg f, spans_self f]
  · rw [if_neg c] at h
    omega

theorem l8 : ∀ l, InRange [(iv 2), (iv 2), (iv 2), (iv 2)] l → ∀ W, Calls Try.prog 8 (packs [(iv 2), (iv 2), (iv 2), (iv 2)] l).toArray W fun e w' => e = .returned (.bool true) ∧ Below W.heap.size W w' :=
  law_of [12, 16, 17, 21] [41, 51, 53, 52] noLoop 100 mixed Try.func8 (by kernel_rfl) (forall_cons c12 (forall_cons c16 (forall_cons c17 (forall_cons c21 forall_nil)))) fun l0 hl0 => by
    obtain ⟨ax, l1, rfl, r0, hl1⟩ := range_i64 hl0
    obtain ⟨ay, l2, rfl, r1, hl2⟩ := range_i64 hl1
    obtain ⟨bx, l3, rfl, r2, hl3⟩ := range_i64 hl2
    obtain ⟨by', l4, rfl, r3, hl4⟩ := range_i64 hl3
    obtain ⟨cx, l5, rfl, r4, hl5⟩ := range_i64 hl4
    obtain ⟨cy, l6, rfl, r5, hl6⟩ := range_i64 hl5
    obtain ⟨dx, l7, rfl, r6, hl7⟩ := range_i64 hl6
    obtain ⟨dy, l8, rfl, r7, hl8⟩ := range_i64 hl7
    cases range_nil hl8
    clear hl8 hl7 hl6 hl5 hl4 hl3 hl2 hl1 hl0
    show T.holds _ _ _ (resQ Φ fun rs => rs = [.bool true])
    rw [t8]
    have ha0 : awk0 = true := rfl
    rw [ha0]
    have T1 : ∀ {A B : Prop} (u : Int), cond (cmpI .eql u u) A B = A := by intro A B u; rw [eql_d, decide_eq_true rfl]; rfl
    have TB : ∀ {A B : Prop} (u : Bool), cond (u == u) A B = A := by intro A B u; cases u <;> rfl
    rw [tn1_turn ax ay bx by' cx cy, tn1_rot ax ay bx by' cx cy, tn0_turn ax ay bx by' cx cy, tn0_rot ax ay bx by' cx cy, met1_on ax ay bx by' cx cy, met0_on ax ay bx by' cx cy,
      met1_ex ax ay bx by' cx cy dx dy, met1_sw ax ay bx by' cx cy dx dy, met0_ex ax ay bx by' cx cy dx dy, met0_sw ax ay bx by' cx cy dx dy]
    rw [T1, T1, T1, T1, T1, TB, T1, T1, T1, T1]
    by_cases g : met1 ax ay bx by' ax ay bx by' = 0
    · rw [g, T1, met_self g]
      by_cases e : ax = bx ∧ ay = by'
      · rw [if_pos e]
        obtain ⟨rfl, rfl⟩ := e
        simp [eql_d]
      · rw [if_neg e]
        have : (cmpI .eql ax bx && cmpI .eql ay by') = false := by simp only [eql_d, ← Bool.decide_and, decide_eq_false_iff_not]; exact e
        rw [this]
        simp [eql_d]
    · rw [eql_d, decide_eq_false g]
      rfl
theorem own : ownKnob Try.prog.godebug = none := by kernel_rfl
theorem laidOut : laidOutB Try.prog = true := by kernel_rfl
theorem vectorSegments_lifted (os : Os) (started : os.Started) (H : Type) (enc : TypeId × Value → H) :
    ReturnsInHanded {} Try.checked os 8 .any (Rows.vectorSegmentsSpec.pre6 enc Try.prog Try.f8 Rows.vectorSegmentsRow.domain false) (Rows.vectorSegmentsSpec.post enc Try.prog Try.f8 false true false false) :=
  law_lifted (A := Try.checked) (rt := Try.f8.resultTypes[0]!) own laidOut started Try.func8 (by kernel_rfl) rfl (ss := [(iv 2), (iv 2), (iv 2), (iv 2)]) (by kernel_rfl) (by kernel_rfl) rfl (by kernel_rfl)
    (fun ds hl => by
        match ds, hl with
        | [d1, d2, d3, d4], _ => exact ⟨rfl, rfl, rfl⟩)
    (ChangeSpec.witness6 (enc := enc) (C := Try.checked) false ⟨#[], #[.agg #[.int .i64 0, .int .i64 0], .agg #[.int .i64 0, .int .i64 0], .agg #[.int .i64 0, .int .i64 0], .agg #[.int .i64 0, .int .i64 0]], []⟩ 8 (by kernel_rfl) (by kernel_rfl) (by kernel_rfl) (by kernel_rfl))
    l8
/-- The statement: Turn changes its sign, On and Meet agree, and Meet does not depend on the order of its arguments. -/
theorem vectorSegments_holds : Rows.VectorSegmentsSaid :=
  OpenClaim.holds_of_wide 8 Try.f8 rfl rfl rfl rfl rfl rfl rfl ⟨rfl, rfl, rfl, rfl, rfl⟩ rfl rfl rfl rfl rfl (by kernel_rfl) Try.func8 (by kernel_rfl)
    (of_decide_eq_true (by kernel_rfl)) (by unfold Func.isWrapper; rw [if_neg (of_decide_eq_false (by kernel_rfl))]; exact ⟨rfl, rfl⟩)
    (fun os started H enc _ => vectorSegments_lifted os started H enc)
end Go.Proofs.Ytoffcodhcbgbdaa
