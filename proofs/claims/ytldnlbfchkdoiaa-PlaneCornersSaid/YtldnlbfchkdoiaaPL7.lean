/- The plane seat, a box lies in a half-space exactly if its greatest value is at most 0, and each corner's value lies between both extremes; for every input, without a condition. -/
import Derived.Test.YtldnlbfchkdoiaaP5
import Derived.Test.YtldnlbfchkdoiaaRows
namespace Go.Proofs.Ytldnlbfchkdoiaa
open Go.Sx
set_option linter.unusedVariables false
set_option linter.unusedSimpArgs false
set_option maxRecDepth 100000
open Go.ChangeShapes Go.WideShapes Go.ChangeAt Go.RowKit
theorem t7 (a : Int) (b : Int) (c : Int) (d : Int) (x0 : Int) (y0 : Int) (z0 : Int) (x1 : Int) (y1 : Int) (z1 : Int) (corner : Int) (Q : List Sc → Prop) : (fnT (cfgOf Try.prog sigs [12, 18, 19, 13] [41, 51] noLoop) 7 Try.f7 (bodyOf Try.f7) ⟨[(iv 4), (iv 6), i1], [b1]⟩ 100).holds Φ [.int a, .int b, .int c, .int d, .int x0, .int y0, .int z0, .int x1, .int y1, .int z1, .int corner] (resQ Φ Q) =
  (cond awk0
   (cond (cmpI .eql (ext2 a b c d x0 y0 z0 x1 y1 z1) (sid1 a b c d x0 y0 z0 x1 y1 z1))
    (cond (cmpI .eql (ext2 a b c d x0 y0 z0 x1 y1 z1) 0)
     (cond (cmpI .eql (arI .rem .i64 corner 2) 0)
      (cond (cmpI .eql (arI .rem .i64 (arI .quo .i64 corner 2) 2) 0)
       (cond (cmpI .eql (arI .rem .i64 (arI .quo .i64 corner 4) 2) 0)
        (cond (cmpI .eql (vlu1 a b c d x0 y0 z0) 0)
         (cond (cmpI .lss (vlu0 a b c d x0 y0 z0) (ext0 a b c d x0 y0 z0 x1 y1 z1))
          (Q [.bool false])
          (cond (cmpI .lss (ext1 a b c d x0 y0 z0 x1 y1 z1) (vlu0 a b c d x0 y0 z0))
           (Q [.bool false])
           (cond (cmpI .lss (ext0 a b c d x0 y0 z0 x1 y1 z1) (ext1 a b c d x0 y0 z0 x1 y1 z1))
            (cond ((cmpI .eql (sid0 a b c d x0 y0 z0 x1 y1 z1) 1) == (!(cmpI .lss 0 (ext1 a b c d x0 y0 z0 x1 y1 z1))))
             (Q [.bool ((cmpI .eql (sid0 a b c d x0 y0 z0 x1 y1 z1) 2) == (!(cmpI .lss (ext0 a b c d x0 y0 z0 x1 y1 z1) 0)))])
             (Q [.bool false]))
            (Q [.bool false]))))
         (Q [.bool false]))
        (cond (cmpI .eql (vlu1 a b c d x0 y0 z1) 0)
         (cond (cmpI .lss (vlu0 a b c d x0 y0 z1) (ext0 a b c d x0 y0 z0 x1 y1 z1))
          (Q [.bool false])
          (cond (cmpI .lss (ext1 a b c d x0 y0 z0 x1 y1 z1) (vlu0 a b c d x0 y0 z1))
           (Q [.bool false])
           (cond (cmpI .lss (ext0 a b c d x0 y0 z0 x1 y1 z1) (ext1 a b c d x0 y0 z0 x1 y1 z1))
            (cond ((cmpI .eql (sid0 a b c d x0 y0 z0 x1 y1 z1) 1) == (!(cmpI .lss 0 (ext1 a b c d x0 y0 z0 x1 y1 z1))))
             (Q [.bool ((cmpI .eql (sid0 a b c d x0 y0 z0 x1 y1 z1) 2) == (!(cmpI .lss (ext0 a b c d x0 y0 z0 x1 y1 z1) 0)))])
             (Q [.bool false]))
            (Q [.bool false]))))
         (Q [.bool false])))
       (cond (cmpI .eql (arI .rem .i64 (arI .quo .i64 corner 4) 2) 0)
        (cond (cmpI .eql (vlu1 a b c d x0 y1 z0) 0)
         (cond (cmpI .lss (vlu0 a b c d x0 y1 z0) (ext0 a b c d x0 y0 z0 x1 y1 z1))
          (Q [.bool false])
          (cond (cmpI .lss (ext1 a b c d x0 y0 z0 x1 y1 z1) (vlu0 a b c d x0 y1 z0))
           (Q [.bool false])
           (cond (cmpI .lss (ext0 a b c d x0 y0 z0 x1 y1 z1) (ext1 a b c d x0 y0 z0 x1 y1 z1))
            (cond ((cmpI .eql (sid0 a b c d x0 y0 z0 x1 y1 z1) 1) == (!(cmpI .lss 0 (ext1 a b c d x0 y0 z0 x1 y1 z1))))
             (Q [.bool ((cmpI .eql (sid0 a b c d x0 y0 z0 x1 y1 z1) 2) == (!(cmpI .lss (ext0 a b c d x0 y0 z0 x1 y1 z1) 0)))])
             (Q [.bool false]))
            (Q [.bool false]))))
         (Q [.bool false]))
        (cond (cmpI .eql (vlu1 a b c d x0 y1 z1) 0)
         (cond (cmpI .lss (vlu0 a b c d x0 y1 z1) (ext0 a b c d x0 y0 z0 x1 y1 z1))
          (Q [.bool false])
          (cond (cmpI .lss (ext1 a b c d x0 y0 z0 x1 y1 z1) (vlu0 a b c d x0 y1 z1))
           (Q [.bool false])
           (cond (cmpI .lss (ext0 a b c d x0 y0 z0 x1 y1 z1) (ext1 a b c d x0 y0 z0 x1 y1 z1))
            (cond ((cmpI .eql (sid0 a b c d x0 y0 z0 x1 y1 z1) 1) == (!(cmpI .lss 0 (ext1 a b c d x0 y0 z0 x1 y1 z1))))
             (Q [.bool ((cmpI .eql (sid0 a b c d x0 y0 z0 x1 y1 z1) 2) == (!(cmpI .lss (ext0 a b c d x0 y0 z0 x1 y1 z1) 0)))])
             (Q [.bool false]))
            (Q [.bool false]))))
         (Q [.bool false]))))
      (cond (cmpI .eql (arI .rem .i64 (arI .quo .i64 corner 2) 2) 0)
       (cond (cmpI .eql (arI .rem .i64 (arI .quo .i64 corner 4) 2) 0)
        (cond (cmpI .eql (vlu1 a b c d x1 y0 z0) 0)
         (cond (cmpI .lss (vlu0 a b c d x1 y0 z0) (ext0 a b c d x0 y0 z0 x1 y1 z1))
          (Q [.bool false])
          (cond (cmpI .lss (ext1 a b c d x0 y0 z0 x1 y1 z1) (vlu0 a b c d x1 y0 z0))
           (Q [.bool false])
           (cond (cmpI .lss (ext0 a b c d x0 y0 z0 x1 y1 z1) (ext1 a b c d x0 y0 z0 x1 y1 z1))
            (cond ((cmpI .eql (sid0 a b c d x0 y0 z0 x1 y1 z1) 1) == (!(cmpI .lss 0 (ext1 a b c d x0 y0 z0 x1 y1 z1))))
             (Q [.bool ((cmpI .eql (sid0 a b c d x0 y0 z0 x1 y1 z1) 2) == (!(cmpI .lss (ext0 a b c d x0 y0 z0 x1 y1 z1) 0)))])
             (Q [.bool false]))
            (Q [.bool false]))))
         (Q [.bool false]))
        (cond (cmpI .eql (vlu1 a b c d x1 y0 z1) 0)
         (cond (cmpI .lss (vlu0 a b c d x1 y0 z1) (ext0 a b c d x0 y0 z0 x1 y1 z1))
          (Q [.bool false])
          (cond (cmpI .lss (ext1 a b c d x0 y0 z0 x1 y1 z1) (vlu0 a b c d x1 y0 z1))
           (Q [.bool false])
           (cond (cmpI .lss (ext0 a b c d x0 y0 z0 x1 y1 z1) (ext1 a b c d x0 y0 z0 x1 y1 z1))
            (cond ((cmpI .eql (sid0 a b c d x0 y0 z0 x1 y1 z1) 1) == (!(cmpI .lss 0 (ext1 a b c d x0 y0 z0 x1 y1 z1))))
             (Q [.bool ((cmpI .eql (sid0 a b c d x0 y0 z0 x1 y1 z1) 2) == (!(cmpI .lss (ext0 a b c d x0 y0 z0 x1 y1 z1) 0)))])
             (Q [.bool false]))
            (Q [.bool false]))))
         (Q [.bool false])))
       (cond (cmpI .eql (arI .rem .i64 (arI .quo .i64 corner 4) 2) 0)
        (cond (cmpI .eql (vlu1 a b c d x1 y1 z0) 0)
         (cond (cmpI .lss (vlu0 a b c d x1 y1 z0) (ext0 a b c d x0 y0 z0 x1 y1 z1))
          (Q [.bool false])
          (cond (cmpI .lss (ext1 a b c d x0 y0 z0 x1 y1 z1) (vlu0 a b c d x1 y1 z0))
           (Q [.bool false])
           (cond (cmpI .lss (ext0 a b c d x0 y0 z0 x1 y1 z1) (ext1 a b c d x0 y0 z0 x1 y1 z1))
            (cond ((cmpI .eql (sid0 a b c d x0 y0 z0 x1 y1 z1) 1) == (!(cmpI .lss 0 (ext1 a b c d x0 y0 z0 x1 y1 z1))))
             (Q [.bool ((cmpI .eql (sid0 a b c d x0 y0 z0 x1 y1 z1) 2) == (!(cmpI .lss (ext0 a b c d x0 y0 z0 x1 y1 z1) 0)))])
             (Q [.bool false]))
            (Q [.bool false]))))
         (Q [.bool false]))
        (cond (cmpI .eql (vlu1 a b c d x1 y1 z1) 0)
         (cond (cmpI .lss (vlu0 a b c d x1 y1 z1) (ext0 a b c d x0 y0 z0 x1 y1 z1))
          (Q [.bool false])
          (cond (cmpI .lss (ext1 a b c d x0 y0 z0 x1 y1 z1) (vlu0 a b c d x1 y1 z1))
           (Q [.bool false])
           (cond (cmpI .lss (ext0 a b c d x0 y0 z0 x1 y1 z1) (ext1 a b c d x0 y0 z0 x1 y1 z1))
            (cond ((cmpI .eql (sid0 a b c d x0 y0 z0 x1 y1 z1) 1) == (!(cmpI .lss 0 (ext1 a b c d x0 y0 z0 x1 y1 z1))))
             (Q [.bool ((cmpI .eql (sid0 a b c d x0 y0 z0 x1 y1 z1) 2) == (!(cmpI .lss (ext0 a b c d x0 y0 z0 x1 y1 z1) 0)))])
             (Q [.bool false]))
            (Q [.bool false]))))
         (Q [.bool false])))))
     (Q [.bool (cmpI .eql (sid0 a b c d x0 y0 z0 x1 y1 z1) 0)]))
    (Q [.bool false]))
   (Q [.bool false])) := by kernel_rfl
theorem mn_le {p q r : Int} (h : r = p ∨ r = q) : mnI p q ≤ r ∧ r ≤ mxI p q := by
  unfold mnI mxI
  rcases h with rfl | rfl
  · constructor <;> split <;> omega
  · constructor <;> split <;> omega
theorem pick {n p q r : Int} (h : r = p ∨ r = q) : n * r = n * p ∨ n * r = n * q := by
  rcases h with rfl | rfl
  · exact .inl rfl
  · exact .inr rfl
theorem between {a b c d x0 y0 z0 x1 y1 z1 x y z : Int} (hx : x = x0 ∨ x = x1) (hy : y = y0 ∨ y = y1) (hz : z = z0 ∨ z = z1) :
    loE a b c d x0 y0 z0 x1 y1 z1 ≤ valE a b c d x y z ∧ valE a b c d x y z ≤ hiE a b c d x0 y0 z0 x1 y1 z1 := by
  have h1 := mn_le (pick (n := a) hx)
  have h2 := mn_le (pick (n := b) hy)
  have h3 := mn_le (pick (n := c) hz)
  unfold loE hiE valE
  omega
theorem mn_mx (n lo hi : Int) (h : lo < hi) : mnI (n * lo) (n * hi) ≤ mxI (n * lo) (n * hi) ∧ (n ≠ 0 → mnI (n * lo) (n * hi) < mxI (n * lo) (n * hi)) := by
  have ne : n ≠ 0 → n * lo ≠ n * hi := by
    intro hn e
    have := Int.eq_of_mul_eq_mul_left hn e
    omega
  generalize n * lo = u at *
  generalize n * hi = v at *
  unfold mnI mxI
  constructor
  · (repeat' split) <;> omega
  · intro hn
    have := ne hn
    (repeat' split) <;> omega
theorem lo_hi {a b c d x0 y0 z0 x1 y1 z1 : Int} (h : chk2 a b c d x0 y0 z0 x1 y1 z1 = 0) : loE a b c d x0 y0 z0 x1 y1 z1 < hiE a b c d x0 y0 z0 x1 y1 z1 := by
  have ho := okO h
  have hn := (chkH_ok.1 (chk2_ok.1 h).1).2
  have h1 := mn_mx a x0 x1 ho.1
  have h2 := mn_mx b y0 y1 ho.2.1
  have h3 := mn_mx c z0 z1 ho.2.2
  unfold loE hiE
  by_cases n1 : a = 0
  · by_cases n2 : b = 0
    · have := h3.2 (fun n3 => hn ⟨n1, n2, n3⟩)
      omega
    · have := h2.2 n2
      omega
  · have := h1.2 n1
    omega
theorem sides {lo hi : Int} (h : lo < hi) : cond ((cmpI .eql (sidE lo hi) 1) == (!(cmpI .lss 0 hi))) ([Sc.bool ((cmpI .eql (sidE lo hi) 2) == (!(cmpI .lss lo 0)))] = [Sc.bool true]) ([Sc.bool false] = [Sc.bool true]) := by
  unfold sidE
  simp only [eql_d, lss_d, nlt_d]
  by_cases h1 : hi ≤ 0
  · have h2 : ¬ 0 ≤ lo := by omega
    simp [h1, h2]
  · by_cases h2 : 0 ≤ lo
    · simp [h1, h2]
    · simp [h1, h2]

theorem l7 : ∀ l, InRange [(iv 4), (iv 6), i1] l → ∀ W, Calls Try.prog 7 (packs [(iv 4), (iv 6), i1] l).toArray W fun e w' => e = .returned (.bool true) ∧ Below W.heap.size W w' :=
  law_of [12, 18, 19, 13] [41, 51] noLoop 100 mixed Try.func7 (by kernel_rfl) (forall_cons c12 (forall_cons c18 (forall_cons c19 (forall_cons c13 forall_nil)))) fun l0 hl0 => by
    obtain ⟨a, l1, rfl, r0, hl1⟩ := range_i64 hl0
    obtain ⟨b, l2, rfl, r1, hl2⟩ := range_i64 hl1
    obtain ⟨c, l3, rfl, r2, hl3⟩ := range_i64 hl2
    obtain ⟨d, l4, rfl, r3, hl4⟩ := range_i64 hl3
    obtain ⟨x0, l5, rfl, r4, hl5⟩ := range_i64 hl4
    obtain ⟨y0, l6, rfl, r5, hl6⟩ := range_i64 hl5
    obtain ⟨z0, l7, rfl, r6, hl7⟩ := range_i64 hl6
    obtain ⟨x1, l8, rfl, r7, hl8⟩ := range_i64 hl7
    obtain ⟨y1, l9, rfl, r8, hl9⟩ := range_i64 hl8
    obtain ⟨z1, l10, rfl, r9, hl10⟩ := range_i64 hl9
    obtain ⟨corner, l11, rfl, r10, hl11⟩ := range_i64 hl10
    cases range_nil hl11
    clear hl11 hl10 hl9 hl8 hl7 hl6 hl5 hl4 hl3 hl2 hl1 hl0
    show T.holds _ _ _ (resQ Φ fun rs => rs = [.bool true])
    rw [t7]
    have ha : awk0 = true := rfl
    rw [ha]
    simp only [ext2, sid1, ct, T1]
    by_cases h : chk2 a b c d x0 y0 z0 x1 y1 z1 = 0
    · have hr := okH h
      have hb := okB h
      have e0 : ext0 a b c d x0 y0 z0 x1 y1 z1 = loE a b c d x0 y0 z0 x1 y1 z1 := if_pos h
      have e1 : ext1 a b c d x0 y0 z0 x1 y1 z1 = hiE a b c d x0 y0 z0 x1 y1 z1 := if_pos h
      have s0 : sid0 a b c d x0 y0 z0 x1 y1 z1 = sidE (loE a b c d x0 y0 z0 x1 y1 z1) (hiE a b c d x0 y0 z0 x1 y1 z1) := if_pos h
      have hlt := lo_hi h
      rw [e0, e1, s0, h, T1]
      have K : ∀ x y z : Int, (x = x0 ∨ x = x1) → (y = y0 ∨ y = y1) → (z = z0 ∨ z = z1) →
          cond (cmpI .eql (vlu1 a b c d x y z) 0)
           (cond (cmpI .lss (vlu0 a b c d x y z) (loE a b c d x0 y0 z0 x1 y1 z1)) ([Sc.bool false] = [Sc.bool true])
            (cond (cmpI .lss (hiE a b c d x0 y0 z0 x1 y1 z1) (vlu0 a b c d x y z)) ([Sc.bool false] = [Sc.bool true])
             (cond (cmpI .lss (loE a b c d x0 y0 z0 x1 y1 z1) (hiE a b c d x0 y0 z0 x1 y1 z1))
              (cond ((cmpI .eql (sidE (loE a b c d x0 y0 z0 x1 y1 z1) (hiE a b c d x0 y0 z0 x1 y1 z1)) 1) == (!(cmpI .lss 0 (hiE a b c d x0 y0 z0 x1 y1 z1))))
               ([Sc.bool ((cmpI .eql (sidE (loE a b c d x0 y0 z0 x1 y1 z1) (hiE a b c d x0 y0 z0 x1 y1 z1)) 2) == (!(cmpI .lss (loE a b c d x0 y0 z0 x1 y1 z1) 0)))] = [Sc.bool true])
               ([Sc.bool false] = [Sc.bool true]))
              ([Sc.bool false] = [Sc.bool true]))))
           ([Sc.bool false] = [Sc.bool true]) := by
        intro x y z hx hy hz
        have hin : in3 x y z = true := by
          simp only [inB, Bool.and_eq_true, in3_iff] at hb
          simp only [in3_iff]
          omega
        have hc := (chk2_ok.1 h).1
        have v1 : vlu1 a b c d x y z = 0 := by unfold vlu1; rw [if_pos hc, if_pos hin]
        have v0 : vlu0 a b c d x y z = valE a b c d x y z := if_pos ⟨hc, hin⟩
        have bt := between (a := a) (b := b) (c := c) (d := d) hx hy hz
        rw [v1, v0, T1, lss_d, decide_eq_false (by omega), cf, lss_d, decide_eq_false (by omega), cf, lss_d, decide_eq_true hlt, ct]
        exact sides hlt
      by_cases c1 : arI .rem .i64 corner 2 = 0 <;> by_cases c2 : arI .rem .i64 (arI .quo .i64 corner 2) 2 = 0 <;> by_cases c3 : arI .rem .i64 (arI .quo .i64 corner 4) 2 = 0 <;>
        simp only [eql_d (arI .rem .i64 corner 2), eql_d (arI .rem .i64 (arI .quo .i64 corner 2) 2), eql_d (arI .rem .i64 (arI .quo .i64 corner 4) 2), c1, c2, c3, decide_true, decide_false, ct, cf]
      · exact K x0 y0 z0 (.inl rfl) (.inl rfl) (.inl rfl)
      · exact K x0 y0 z1 (.inl rfl) (.inl rfl) (.inr rfl)
      · exact K x0 y1 z0 (.inl rfl) (.inr rfl) (.inl rfl)
      · exact K x0 y1 z1 (.inl rfl) (.inr rfl) (.inr rfl)
      · exact K x1 y0 z0 (.inr rfl) (.inl rfl) (.inl rfl)
      · exact K x1 y0 z1 (.inr rfl) (.inl rfl) (.inr rfl)
      · exact K x1 y1 z0 (.inr rfl) (.inr rfl) (.inl rfl)
      · exact K x1 y1 z1 (.inr rfl) (.inr rfl) (.inr rfl)
    · have s0 : sid0 a b c d x0 y0 z0 x1 y1 z1 = 0 := if_neg h
      rw [eql_d, decide_eq_false h, s0]
      rfl
theorem own : ownKnob Try.prog.godebug = none := by kernel_rfl
theorem laidOut : laidOutB Try.prog = true := by kernel_rfl
theorem planeCorners_lifted (os : Os) (started : os.Started) (H : Type) (enc : TypeId × Value → H) :
    ReturnsInHanded {} Try.checked os 7 .any (Rows.planeCornersSpec.pre6 enc Try.prog Try.f7 Rows.planeCornersRow.domain false) (Rows.planeCornersSpec.post enc Try.prog Try.f7 false true false false) :=
  law_lifted (A := Try.checked) (rt := Try.f7.resultTypes[0]!) own laidOut started Try.func7 (by kernel_rfl) rfl (ss := [(iv 4), (iv 6), i1]) (by kernel_rfl) (by kernel_rfl) rfl (by kernel_rfl)
    (fun ds hl => by
        match ds, hl with
        | [d1, d2, d3], _ => exact ⟨rfl, rfl, rfl⟩)
    (ChangeSpec.witness6 (enc := enc) (C := Try.checked) false ⟨#[], #[.agg #[.int .i64 0, .int .i64 0, .int .i64 0, .int .i64 0], .agg #[.int .i64 0, .int .i64 0, .int .i64 0, .int .i64 0, .int .i64 0, .int .i64 0], .int .i64 0], []⟩ 8 (by kernel_rfl) (by kernel_rfl) (by kernel_rfl) (by kernel_rfl))
    l7
/-- The statement: a box lies in a half-space exactly if its greatest value is at most 0, and each corner's value lies between both extremes. -/
theorem planeCorners_holds : Rows.PlaneCornersSaid :=
  OpenClaim.holds_of_wide 7 Try.f7 rfl rfl rfl rfl rfl rfl rfl ⟨rfl, rfl, rfl, rfl, rfl⟩ rfl rfl rfl rfl rfl (by kernel_rfl) Try.func7 (by kernel_rfl)
    (of_decide_eq_true (by kernel_rfl)) (by unfold Func.isWrapper; rw [if_neg (of_decide_eq_false (by kernel_rfl))]; exact ⟨rfl, rfl⟩)
    (fun os started H enc _ => planeCorners_lifted os started H enc)
end Go.Proofs.Ytldnlbfchkdoiaa
