/- The vector seat: in the vector seat, for every vector Primitive answers as the reference does, or with the stated error; for every input, without a condition. -/
import Derived.Test.YtoffcodhcbgbdaaV3
import Derived.Test.YtoffcodhcbgbdaaRows
namespace Go.Proofs.Ytoffcodhcbgbdaa
open Go.Sx
set_option linter.unusedVariables false
set_option linter.unusedSimpArgs false
set_option maxRecDepth 100000
open Go.ChangeShapes Go.WideShapes Go.ChangeAt Go.RowKit
theorem t3 (x : Int) (y : Int) (z : Int) (Q : List Sc → Prop) : (fnT (cfgOf Try.prog sigs [12, 13, 14, 15] [41, 51, 53, 52] noLoop) 3 Try.f3 (bodyOf Try.f3) ⟨[(iv 3)], [b1]⟩ 100).holds Φ [.int x, .int y, .int z] (resQ Φ Q) =
  (cond awk0
   (cond (rIn0 x y z)
    (cond ((cmpI .eql x 0) && ((cmpI .eql y 0) && (cmpI .eql z 0)))
     (cond (cmpI .eql (prm4 x y z) 1)
      (cond ((cmpI .eql (prm0 x y z) 0) && ((cmpI .eql (prm1 x y z) 0) && (cmpI .eql (prm2 x y z) 0)))
       (Q [.bool (cmpI .eql (prm3 x y z) 0)])
       (Q [.bool false]))
      (Q [.bool false]))
     (cond (rPrmP x y z)
     (cond (cmpI .eql (prm4 x y z) 0)
      (cond ((cmpI .eql (prm0 x y z) (rPrm0 x y z)) && ((cmpI .eql (prm1 x y z) (rPrm1 x y z)) && (cmpI .eql (prm2 x y z) (rPrm2 x y z))))
       (Q [.bool (cmpI .eql (prm3 x y z) (rPrm3 x y z))])
       (Q [.bool false]))
      (Q [.bool false]))
     False))
    (cond (cmpI .eql (prm4 x y z) 6)
     (cond ((cmpI .eql (prm0 x y z) 0) && ((cmpI .eql (prm1 x y z) 0) && (cmpI .eql (prm2 x y z) 0)))
      (Q [.bool (cmpI .eql (prm3 x y z) 0)])
      (Q [.bool false]))
     (Q [.bool false])))
   (Q [.bool false])) := by kernel_rfl

theorem l3 : ∀ l, InRange [(iv 3)] l → ∀ W, Calls Try.prog 3 (packs [(iv 3)] l).toArray W fun e w' => e = .returned (.bool true) ∧ Below W.heap.size W w' :=
  law_of [12, 13, 14, 15] [41, 51, 53, 52] noLoop 100 mixed Try.func3 (by kernel_rfl) (forall_cons c12 (forall_cons c13 (forall_cons c14 (forall_cons c15 forall_nil)))) fun l0 hl0 => by
    obtain ⟨x, l1, rfl, r0, hl1⟩ := range_i64 hl0
    obtain ⟨y, l2, rfl, r1, hl2⟩ := range_i64 hl1
    obtain ⟨z, l3, rfl, r2, hl3⟩ := range_i64 hl2
    cases range_nil hl3
    clear hl3 hl2 hl1 hl0
    show T.holds _ _ _ (resQ Φ fun rs => rs = [.bool true])
    rw [t3]
    have ha : awk0 = true := rfl
    by_cases h : in3 x y z = true
    · by_cases h0 : x = 0 ∧ y = 0 ∧ z = 0
      · obtain ⟨rfl, rfl, rfl⟩ := h0
        refine Eq.mp (α := [Sc.bool true] = [Sc.bool true]) ?_ rfl
        kernel_rfl
      · have hk := k3_le h h0
        have hb : (cmpI .eql x 0 && (cmpI .eql y 0 && cmpI .eql z 0)) = false := by
          simp only [eql_d, ← Bool.decide_and, decide_eq_false_iff_not]
          exact h0
        have hn : ¬ k3 x y z = 0 := by omega
        have hP : rPrmP x y z = true := by simp only [rPrmP, h, Bool.true_and, decide_eq_true_eq]; exact hn
        rw [hb, hP, ha]
        simp only [rIn0, prm0, prm1, prm2, prm3, prm4, rPrm0, rPrm1, rPrm2, rPrm3, if_pos h, if_neg hn, h, eql_d]
        simp
    · have h' : in3 x y z = false := by simpa using h
      simp only [rIn0, prm0, prm1, prm2, prm3, prm4, if_neg h, h', ha, eql_d]
      simp
theorem own : ownKnob Try.prog.godebug = none := by kernel_rfl
theorem laidOut : laidOutB Try.prog = true := by kernel_rfl
theorem vectorPrimitives_lifted (os : Os) (started : os.Started) (H : Type) (enc : TypeId × Value → H) :
    ReturnsInHanded {} Try.checked os 3 .any (Rows.vectorPrimitivesSpec.pre6 enc Try.prog Try.f3 Rows.vectorPrimitivesRow.domain false) (Rows.vectorPrimitivesSpec.post enc Try.prog Try.f3 false true false false) :=
  law_lifted (A := Try.checked) (rt := Try.f3.resultTypes[0]!) own laidOut started Try.func3 (by kernel_rfl) rfl (ss := [(iv 3)]) (by kernel_rfl) (by kernel_rfl) rfl (by kernel_rfl)
    (fun ds hl => by
        obtain ⟨d1, rfl⟩ : ∃ a, ds = [a] := by
          cases ds with
          | nil => cases hl
          | cons a t => cases t with
            | nil => exact ⟨a, rfl⟩
            | cons _ _ => cases hl
        exact ⟨rfl, rfl, rfl⟩)
    (ChangeSpec.witness6 (enc := enc) (C := Try.checked) false ⟨#[], #[.agg #[.int .i64 0, .int .i64 0, .int .i64 0]], []⟩ 8 (by kernel_rfl) (by kernel_rfl) (by kernel_rfl) (by kernel_rfl))
    l3
/-- The statement: for every vector Primitive answers as the reference does, or with the stated error. -/
theorem vectorPrimitives_holds : Rows.VectorPrimitivesSaid :=
  OpenClaim.holds_of_wide 3 Try.f3 rfl rfl rfl rfl rfl rfl rfl ⟨rfl, rfl, rfl, rfl, rfl⟩ rfl rfl rfl rfl rfl (by kernel_rfl) Try.func3 (by kernel_rfl)
    (of_decide_eq_true (by kernel_rfl)) (by unfold Func.isWrapper; rw [if_neg (of_decide_eq_false (by kernel_rfl))]; exact ⟨rfl, rfl⟩)
    (fun os started H enc _ => vectorPrimitives_lifted os started H enc)
end Go.Proofs.Ytoffcodhcbgbdaa
