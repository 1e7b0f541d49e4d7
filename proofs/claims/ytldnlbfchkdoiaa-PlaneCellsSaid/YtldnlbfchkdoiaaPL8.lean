/- The plane seat, the hull lies in the box and contains each cell that lies in the half-space; for every input, without a condition. -/
import Derived.Test.YtldnlbfchkdoiaaP5
import Derived.Test.YtldnlbfchkdoiaaRows
namespace Go.Proofs.Ytldnlbfchkdoiaa
open Go.Sx
set_option linter.unusedVariables false
set_option linter.unusedSimpArgs false
set_option maxRecDepth 100000
open Go.ChangeShapes Go.WideShapes Go.ChangeAt Go.RowKit
theorem t8 (a : Int) (b : Int) (c : Int) (d : Int) (x0 : Int) (y0 : Int) (z0 : Int) (x1 : Int) (y1 : Int) (z1 : Int) (x : Int) (y : Int) (z : Int) (Q : List Sc → Prop) : (fnT (cfgOf Try.prog sigs [12, 23, 19] [41, 51] noLoop) 8 Try.f8 (bodyOf Try.f8) ⟨[(iv 4), (iv 6), (iv 3)], [b1]⟩ 100).holds Φ [.int a, .int b, .int c, .int d, .int x0, .int y0, .int z0, .int x1, .int y1, .int z1, .int x, .int y, .int z] (resQ Φ Q) =
  (cond awk0
   (cond (cmpI .eql (sid1 a b c d x0 y0 z0 x1 y1 z1) 0)
    (cond (cmpI .eql (sid0 a b c d x0 y0 z0 x1 y1 z1) 1)
     (cond (cmpI .eql (hul6 a b c d x0 y0 z0 x1 y1 z1) 0)
      (cond ((cmpI .eql (hul0 a b c d x0 y0 z0 x1 y1 z1) x0) && ((cmpI .eql (hul1 a b c d x0 y0 z0 x1 y1 z1) y0) && ((cmpI .eql (hul2 a b c d x0 y0 z0 x1 y1 z1) z0) && ((cmpI .eql (hul3 a b c d x0 y0 z0 x1 y1 z1) x1) && ((cmpI .eql (hul4 a b c d x0 y0 z0 x1 y1 z1) y1) && (cmpI .eql (hul5 a b c d x0 y0 z0 x1 y1 z1) z1))))))
       (cond (cmpI .lss (hul0 a b c d x0 y0 z0 x1 y1 z1) x0)
        (Q [.bool false])
        (cond (cmpI .lss (hul1 a b c d x0 y0 z0 x1 y1 z1) y0)
         (Q [.bool false])
         (cond (cmpI .lss (hul2 a b c d x0 y0 z0 x1 y1 z1) z0)
          (Q [.bool false])
          (cond (cmpI .lss x1 (hul3 a b c d x0 y0 z0 x1 y1 z1))
           (Q [.bool false])
           (cond (cmpI .lss y1 (hul4 a b c d x0 y0 z0 x1 y1 z1))
            (Q [.bool false])
            (cond (cmpI .lss z1 (hul5 a b c d x0 y0 z0 x1 y1 z1))
             (Q [.bool false])
             (cond (cmpI .lss x x0)
              (Q [.bool true])
              (cond (cmpI .lss y y0)
               (Q [.bool true])
               (cond (cmpI .lss z z0)
                (Q [.bool true])
                (cond (cmpI .lss x x1)
                 (cond (cmpI .lss y y1)
                  (cond (cmpI .lss z z1)
                   (cond (cmpI .eql (sid1 a b c d x y z (arI .add .i64 x 1) (arI .add .i64 y 1) (arI .add .i64 z 1)) 0)
                    (cond (cmpI .eql (sid0 a b c d x y z (arI .add .i64 x 1) (arI .add .i64 y 1) (arI .add .i64 z 1)) 1)
                     (cond (cmpI .lss x (hul0 a b c d x0 y0 z0 x1 y1 z1))
                      (Q [.bool false])
                      (cond (cmpI .lss y (hul1 a b c d x0 y0 z0 x1 y1 z1))
                       (Q [.bool false])
                       (cond (cmpI .lss z (hul2 a b c d x0 y0 z0 x1 y1 z1))
                        (Q [.bool false])
                        (cond (cmpI .lss x (hul3 a b c d x0 y0 z0 x1 y1 z1))
                         (cond (cmpI .lss y (hul4 a b c d x0 y0 z0 x1 y1 z1))
                          (Q [.bool (cmpI .lss z (hul5 a b c d x0 y0 z0 x1 y1 z1))])
                          (Q [.bool false]))
                         (Q [.bool false])))))
                     (Q [.bool true]))
                    (Q [.bool false]))
                   (Q [.bool true]))
                  (Q [.bool true]))
                 (Q [.bool true])))))))))))
       (Q [.bool false]))
      (Q [.bool false]))
     (cond (cmpI .eql (hul6 a b c d x0 y0 z0 x1 y1 z1) 0)
      (cond (cmpI .lss (hul0 a b c d x0 y0 z0 x1 y1 z1) x0)
       (Q [.bool false])
       (cond (cmpI .lss (hul1 a b c d x0 y0 z0 x1 y1 z1) y0)
        (Q [.bool false])
        (cond (cmpI .lss (hul2 a b c d x0 y0 z0 x1 y1 z1) z0)
         (Q [.bool false])
         (cond (cmpI .lss x1 (hul3 a b c d x0 y0 z0 x1 y1 z1))
          (Q [.bool false])
          (cond (cmpI .lss y1 (hul4 a b c d x0 y0 z0 x1 y1 z1))
           (Q [.bool false])
           (cond (cmpI .lss z1 (hul5 a b c d x0 y0 z0 x1 y1 z1))
            (Q [.bool false])
            (cond (cmpI .lss x x0)
             (Q [.bool true])
             (cond (cmpI .lss y y0)
              (Q [.bool true])
              (cond (cmpI .lss z z0)
               (Q [.bool true])
               (cond (cmpI .lss x x1)
                (cond (cmpI .lss y y1)
                 (cond (cmpI .lss z z1)
                  (cond (cmpI .eql (sid1 a b c d x y z (arI .add .i64 x 1) (arI .add .i64 y 1) (arI .add .i64 z 1)) 0)
                   (cond (cmpI .eql (sid0 a b c d x y z (arI .add .i64 x 1) (arI .add .i64 y 1) (arI .add .i64 z 1)) 1)
                    (cond (cmpI .lss x (hul0 a b c d x0 y0 z0 x1 y1 z1))
                     (Q [.bool false])
                     (cond (cmpI .lss y (hul1 a b c d x0 y0 z0 x1 y1 z1))
                      (Q [.bool false])
                      (cond (cmpI .lss z (hul2 a b c d x0 y0 z0 x1 y1 z1))
                       (Q [.bool false])
                       (cond (cmpI .lss x (hul3 a b c d x0 y0 z0 x1 y1 z1))
                        (cond (cmpI .lss y (hul4 a b c d x0 y0 z0 x1 y1 z1))
                         (Q [.bool (cmpI .lss z (hul5 a b c d x0 y0 z0 x1 y1 z1))])
                         (Q [.bool false]))
                        (Q [.bool false])))))
                    (Q [.bool true]))
                   (Q [.bool false]))
                  (Q [.bool true]))
                 (Q [.bool true]))
                (Q [.bool true])))))))))))
      (cond (cmpI .lss x x0)
       (Q [.bool true])
       (cond (cmpI .lss y y0)
        (Q [.bool true])
        (cond (cmpI .lss z z0)
         (Q [.bool true])
         (cond (cmpI .lss x x1)
          (cond (cmpI .lss y y1)
           (cond (cmpI .lss z z1)
            (cond (cmpI .eql (sid1 a b c d x y z (arI .add .i64 x 1) (arI .add .i64 y 1) (arI .add .i64 z 1)) 0)
             (cond (cmpI .eql (sid0 a b c d x y z (arI .add .i64 x 1) (arI .add .i64 y 1) (arI .add .i64 z 1)) 1)
              (Q [.bool false])
              (Q [.bool true]))
             (Q [.bool false]))
            (Q [.bool true]))
           (Q [.bool true]))
          (Q [.bool true])))))))
    (Q [.bool (cmpI .eql (hul6 a b c d x0 y0 z0 x1 y1 z1) (sid1 a b c d x0 y0 z0 x1 y1 z1))]))
   (Q [.bool false])) := by kernel_rfl
theorem lst_mono {n lo hi x : Int} (h1 : lo ≤ x) (h2 : x < hi) : lst n lo hi ≤ lst n x (x + 1) := by
  unfold lst
  by_cases hn : 0 < n
  · rw [if_pos hn, if_pos hn]
    exact Int.mul_le_mul_of_nonneg_left (by omega) (by omega)
  · rw [if_neg hn, if_neg hn]
    exact Int.mul_le_mul_of_nonpos_left (by omega) (by omega)
theorem lst_cell (n x : Int) : mxI (n * x) (n * (x + 1)) = lst n x (x + 1) := by
  unfold lst
  have e : n * (x + 1) = n * x + n := by rw [Int.mul_add, Int.mul_one]
  have e2 : n * (x + 1 - 1) = n * x := by rw [Int.add_sub_cancel]
  rw [e, e2]
  unfold mxI
  (repeat' split) <;> omega
theorem spn_cell {n lo hi x rest : Int} (h1 : lo ≤ x) (h2 : x < hi) (h : lst n x (x + 1) ≤ rest) : spn0 n lo hi rest ≤ x ∧ x < spn1 n lo hi rest := by
  unfold lst at h
  unfold spn0 spn1
  constructor
  · by_cases hn : n < 0
    · rw [if_pos hn]
      rw [if_neg (by omega), Int.add_sub_cancel] at h
      have g : -x ≤ rest / (-n) := by
        rw [Int.le_ediv_iff_mul_le (by omega), Int.neg_mul_neg, Int.mul_comm]
        exact h
      unfold mxI mnI
      (repeat' split) <;> omega
    · rw [if_neg hn]; exact h1
  · by_cases hn : 0 < n
    · rw [if_pos hn]
      rw [if_pos hn] at h
      have g : x + 1 ≤ rest / n := by
        rw [Int.le_ediv_iff_mul_le hn, Int.mul_comm]
        exact h
      unfold mxI mnI
      (repeat' split) <;> omega
    · rw [if_neg hn]; exact h2
theorem cell_in {a b c d x0 y0 z0 x1 y1 z1 x y z : Int} (h : chk2 a b c d x0 y0 z0 x1 y1 z1 = 0) (i1 : x0 ≤ x) (i2 : y0 ≤ y) (i3 : z0 ≤ z) (i4 : x < x1) (i5 : y < y1) (i6 : z < z1)
    (g : hiE a b c d x y z (x + 1) (y + 1) (z + 1) ≤ 0) :
    hul6 a b c d x0 y0 z0 x1 y1 z1 = 0 ∧ hul0 a b c d x0 y0 z0 x1 y1 z1 ≤ x ∧ hul1 a b c d x0 y0 z0 x1 y1 z1 ≤ y ∧ hul2 a b c d x0 y0 z0 x1 y1 z1 ≤ z ∧ x < hul3 a b c d x0 y0 z0 x1 y1 z1 ∧ y < hul4 a b c d x0 y0 z0 x1 y1 z1 ∧ z < hul5 a b c d x0 y0 z0 x1 y1 z1 := by
  unfold hiE at g
  rw [lst_cell, lst_cell, lst_cell] at g
  have m1 := lst_mono (n := a) i1 i4
  have m2 := lst_mono (n := b) i2 i5
  have m3 := lst_mono (n := c) i3 i6
  have hn : ¬ noHull a b c d x0 y0 z0 x1 y1 z1 := by unfold noHull; omega
  have r1 := spn_cell (n := a) (rest := d - lst b y0 y1 - lst c z0 z1) i1 i4 (by omega)
  have r2 := spn_cell (n := b) (rest := d - lst a x0 x1 - lst c z0 z1) i2 i5 (by omega)
  have r3 := spn_cell (n := c) (rest := d - lst a x0 x1 - lst b y0 y1) i3 i6 (by omega)
  have G6 : hul6 a b c d x0 y0 z0 x1 y1 z1 = 0 := by unfold hul6; rw [if_pos h, if_neg hn]
  unfold hul0 hul1 hul2 hul3 hul4 hul5
  rw [if_pos ⟨h, hn⟩, if_pos ⟨h, hn⟩, if_pos ⟨h, hn⟩, if_pos ⟨h, hn⟩, if_pos ⟨h, hn⟩, if_pos ⟨h, hn⟩]
  exact ⟨G6, r1.1, r2.1, r3.1, r1.2, r2.2, r3.2⟩
theorem hul6_no {a b c d x0 y0 z0 x1 y1 z1 : Int} (h : chk2 a b c d x0 y0 z0 x1 y1 z1 = 0) (h6 : hul6 a b c d x0 y0 z0 x1 y1 z1 = 0) : ¬ noHull a b c d x0 y0 z0 x1 y1 z1 := by
  intro n
  unfold hul6 at h6
  rw [if_pos h, if_pos n] at h6
  omega
theorem spn_in (n lo hi rest : Int) (h : lo < hi) : lo ≤ spn0 n lo hi rest ∧ spn1 n lo hi rest ≤ hi := by
  unfold spn0 spn1 mxI mnI
  constructor <;> (repeat' split) <;> omega
theorem hull_in {a b c d x0 y0 z0 x1 y1 z1 : Int} (h : chk2 a b c d x0 y0 z0 x1 y1 z1 = 0) (h6 : hul6 a b c d x0 y0 z0 x1 y1 z1 = 0) :
    x0 ≤ hul0 a b c d x0 y0 z0 x1 y1 z1 ∧ y0 ≤ hul1 a b c d x0 y0 z0 x1 y1 z1 ∧ z0 ≤ hul2 a b c d x0 y0 z0 x1 y1 z1 ∧ hul3 a b c d x0 y0 z0 x1 y1 z1 ≤ x1 ∧ hul4 a b c d x0 y0 z0 x1 y1 z1 ≤ y1 ∧ hul5 a b c d x0 y0 z0 x1 y1 z1 ≤ z1 := by
  have hn := hul6_no h h6
  have ho := okO h
  unfold hul0 hul1 hul2 hul3 hul4 hul5
  rw [if_pos ⟨h, hn⟩, if_pos ⟨h, hn⟩, if_pos ⟨h, hn⟩, if_pos ⟨h, hn⟩, if_pos ⟨h, hn⟩, if_pos ⟨h, hn⟩]
  have r1 := spn_in a x0 x1 (d - lst b y0 y1 - lst c z0 z1) ho.1
  have r2 := spn_in b y0 y1 (d - lst a x0 x1 - lst c z0 z1) ho.2.1
  have r3 := spn_in c z0 z1 (d - lst a x0 x1 - lst b y0 y1) ho.2.2
  exact ⟨r1.1, r2.1, r3.1, r1.2, r2.2, r3.2⟩
theorem lst_le {n lo hi : Int} (h : lo < hi) : lst n lo hi ≤ mxI (n * lo) (n * hi) := by
  unfold lst
  by_cases hn : 0 < n
  · rw [if_pos hn]
    have m := Int.mul_le_mul_of_nonneg_left (show lo + 1 ≤ hi by omega) (show 0 ≤ n by omega)
    unfold mxI
    split <;> omega
  · rw [if_neg hn]
    have m := Int.mul_le_mul_of_nonpos_left (show n ≤ 0 by omega) (show lo ≤ hi - 1 by omega)
    unfold mxI
    split <;> omega
theorem spn_all {n lo hi rest : Int} (h : lo < hi) (hr : mxI (n * lo) (n * hi) ≤ rest) : spn0 n lo hi rest = lo ∧ spn1 n lo hi rest = hi := by
  have l : n * lo ≤ rest ∧ n * hi ≤ rest := by
    unfold mxI at hr
    split at hr <;> omega
  unfold spn0 spn1
  constructor
  · by_cases hn : n < 0
    · rw [if_pos hn]
      have g : -lo ≤ rest / (-n) := by
        rw [Int.le_ediv_iff_mul_le (by omega), Int.neg_mul_neg, Int.mul_comm]
        exact l.1
      unfold mxI mnI
      (repeat' split) <;> omega
    · rw [if_neg hn]
  · by_cases hn : 0 < n
    · rw [if_pos hn]
      have g : hi ≤ rest / n := by
        rw [Int.le_ediv_iff_mul_le hn, Int.mul_comm]
        exact l.2
      unfold mxI mnI
      (repeat' split) <;> omega
    · rw [if_neg hn]
theorem hull_all {a b c d x0 y0 z0 x1 y1 z1 : Int} (h : chk2 a b c d x0 y0 z0 x1 y1 z1 = 0) (g : hiE a b c d x0 y0 z0 x1 y1 z1 ≤ 0) :
    hul6 a b c d x0 y0 z0 x1 y1 z1 = 0 ∧ hul0 a b c d x0 y0 z0 x1 y1 z1 = x0 ∧ hul1 a b c d x0 y0 z0 x1 y1 z1 = y0 ∧ hul2 a b c d x0 y0 z0 x1 y1 z1 = z0 ∧ hul3 a b c d x0 y0 z0 x1 y1 z1 = x1 ∧ hul4 a b c d x0 y0 z0 x1 y1 z1 = y1 ∧ hul5 a b c d x0 y0 z0 x1 y1 z1 = z1 := by
  have ho := okO h
  unfold hiE at g
  have l1 := lst_le (n := a) ho.1
  have l2 := lst_le (n := b) ho.2.1
  have l3 := lst_le (n := c) ho.2.2
  have hn : ¬ noHull a b c d x0 y0 z0 x1 y1 z1 := by unfold noHull; omega
  have r1 := spn_all (n := a) (rest := d - lst b y0 y1 - lst c z0 z1) ho.1 (by omega)
  have r2 := spn_all (n := b) (rest := d - lst a x0 x1 - lst c z0 z1) ho.2.1 (by omega)
  have r3 := spn_all (n := c) (rest := d - lst a x0 x1 - lst b y0 y1) ho.2.2 (by omega)
  have G6 : hul6 a b c d x0 y0 z0 x1 y1 z1 = 0 := by unfold hul6; rw [if_pos h, if_neg hn]
  unfold hul0 hul1 hul2 hul3 hul4 hul5
  rw [if_pos ⟨h, hn⟩, if_pos ⟨h, hn⟩, if_pos ⟨h, hn⟩, if_pos ⟨h, hn⟩, if_pos ⟨h, hn⟩, if_pos ⟨h, hn⟩]
  exact ⟨G6, r1.1, r2.1, r3.1, r1.2, r2.2, r3.2⟩

theorem l8 : ∀ l, InRange [(iv 4), (iv 6), (iv 3)] l → ∀ W, Calls Try.prog 8 (packs [(iv 4), (iv 6), (iv 3)] l).toArray W fun e w' => e = .returned (.bool true) ∧ Below W.heap.size W w' :=
  law_of [12, 23, 19] [41, 51] noLoop 100 mixed Try.func8 (by kernel_rfl) (forall_cons c12 (forall_cons c23 (forall_cons c19 forall_nil))) fun l0 hl0 => by
    obtain ⟨a, l1, rfl, r0, hl1⟩ := range_i64 hl0
    obtain ⟨b, l2, rfl, r1, hl2⟩ := range_i64 hl1
    obtain ⟨c, l3, rfl, r2, hl3⟩ := range_i64 hl2
    obtain ⟨d, l4, rfl, r3, hl4⟩ := range_i64 hl3
    obtain ⟨x0, l5, rfl, r4, hl5⟩ := range_i64 hl4
    obtain ⟨y0, l6, rfl, r5, hl6⟩ := range_i64 hl5
    obtain ⟨z0, l7, rfl, r6, hl7⟩ := range_i64 hl6
    obtain ⟨x1, l8, rfl, r7, hl8⟩ := range_i64 hl7
    obtain ⟨y1, l9, rfl, r8, hl9⟩ := range_i64 hl8
    obtain ⟨z1, l10, rfl, r9, hl10⟩ := range_i64 hl9
    obtain ⟨x, l11, rfl, r10, hl11⟩ := range_i64 hl10
    obtain ⟨y, l12, rfl, r11, hl12⟩ := range_i64 hl11
    obtain ⟨z, l13, rfl, r12, hl13⟩ := range_i64 hl12
    cases range_nil hl13
    clear hl13 hl12 hl11 hl10 hl9 hl8 hl7 hl6 hl5 hl4 hl3 hl2 hl1 hl0
    show T.holds _ _ _ (resQ Φ fun rs => rs = [.bool true])
    rw [t8]
    have ha : awk0 = true := rfl
    rw [ha, ct]
    by_cases h : chk2 a b c d x0 y0 z0 x1 y1 z1 = 0
    · have s1 : sid1 a b c d x0 y0 z0 x1 y1 z1 = 0 := h
      have s0 : sid0 a b c d x0 y0 z0 x1 y1 z1 = sidE (loE a b c d x0 y0 z0 x1 y1 z1) (hiE a b c d x0 y0 z0 x1 y1 z1) := if_pos h
      have ho := okO h
      have hb := okB h
      simp only [inB, Bool.and_eq_true, in3_iff] at hb
      have CELL : ∀ (A F P : Prop), A → ((hul6 a b c d x0 y0 z0 x1 y1 z1 = 0 ∧ hul0 a b c d x0 y0 z0 x1 y1 z1 ≤ x ∧ hul1 a b c d x0 y0 z0 x1 y1 z1 ≤ y ∧ hul2 a b c d x0 y0 z0 x1 y1 z1 ≤ z ∧ x < hul3 a b c d x0 y0 z0 x1 y1 z1 ∧ y < hul4 a b c d x0 y0 z0 x1 y1 z1 ∧ z < hul5 a b c d x0 y0 z0 x1 y1 z1) → P) →
          cond (cmpI .lss x x0) A (cond (cmpI .lss y y0) A (cond (cmpI .lss z z0) A (cond (cmpI .lss x x1) (cond (cmpI .lss y y1) (cond (cmpI .lss z z1)
          (cond (cmpI .eql (sid1 a b c d x y z (arI .add .i64 x 1) (arI .add .i64 y 1) (arI .add .i64 z 1)) 0)
            (cond (cmpI .eql (sid0 a b c d x y z (arI .add .i64 x 1) (arI .add .i64 y 1) (arI .add .i64 z 1)) 1) P A) F) A) A) A))) := by
        intro A F P hA hP
        by_cases i1 : x < x0
        · rw [lss_d, decide_eq_true i1]; exact hA
        by_cases i2 : y < y0
        · rw [lss_d, decide_eq_false i1, cf, lss_d, decide_eq_true i2]; exact hA
        by_cases i3 : z < z0
        · rw [lss_d, decide_eq_false i1, cf, lss_d, decide_eq_false i2, cf, lss_d, decide_eq_true i3]; exact hA
        by_cases i4 : x < x1
        · by_cases i5 : y < y1
          · by_cases i6 : z < z1
            · rw [lss_d x x0, decide_eq_false i1, cf, lss_d y y0, decide_eq_false i2, cf, lss_d z z0, decide_eq_false i3, cf, lss_d x x1, decide_eq_true i4, ct, lss_d y y1, decide_eq_true i5, ct, lss_d z z1, decide_eq_true i6, ct,
                ar_add (a := x) (by omega) (by omega), ar_add (a := y) (by omega) (by omega), ar_add (a := z) (by omega) (by omega)]
              have hB : chkB x y z (x + 1) (y + 1) (z + 1) = 0 := by
                rw [chkB_ok]
                simp only [inB, Bool.and_eq_true, in3_iff]
                omega
              have w : chk2 a b c d x y z (x + 1) (y + 1) (z + 1) = 0 := chk2_ok.2 ⟨(chk2_ok.1 h).1, hB⟩
              have t1 : sid1 a b c d x y z (x + 1) (y + 1) (z + 1) = 0 := w
              have t0 : sid0 a b c d x y z (x + 1) (y + 1) (z + 1) = sidE (loE a b c d x y z (x + 1) (y + 1) (z + 1)) (hiE a b c d x y z (x + 1) (y + 1) (z + 1)) := if_pos w
              rw [t1, T1, t0]
              by_cases g : hiE a b c d x y z (x + 1) (y + 1) (z + 1) ≤ 0
              · have e : sidE (loE a b c d x y z (x + 1) (y + 1) (z + 1)) (hiE a b c d x y z (x + 1) (y + 1) (z + 1)) = 1 := if_pos g
                rw [e, T1]
                exact hP (cell_in h (by omega) (by omega) (by omega) i4 i5 i6 g)
              · have e : ¬ sidE (loE a b c d x y z (x + 1) (y + 1) (z + 1)) (hiE a b c d x y z (x + 1) (y + 1) (z + 1)) = 1 := by
                  unfold sidE
                  rw [if_neg g]
                  split <;> omega
                rw [eql_d, decide_eq_false e]
                exact hA
            · rw [lss_d x x0, decide_eq_false i1, cf, lss_d y y0, decide_eq_false i2, cf, lss_d z z0, decide_eq_false i3, cf, lss_d x x1, decide_eq_true i4, ct, lss_d y y1, decide_eq_true i5, ct, lss_d z z1, decide_eq_false i6]; exact hA
          · rw [lss_d x x0, decide_eq_false i1, cf, lss_d y y0, decide_eq_false i2, cf, lss_d z z0, decide_eq_false i3, cf, lss_d x x1, decide_eq_true i4, ct, lss_d y y1, decide_eq_false i5]; exact hA
        · rw [lss_d x x0, decide_eq_false i1, cf, lss_d y y0, decide_eq_false i2, cf, lss_d z z0, decide_eq_false i3, cf, lss_d x x1, decide_eq_false i4]; exact hA
      have FIN : ∀ F : Prop, (hul6 a b c d x0 y0 z0 x1 y1 z1 = 0 ∧ hul0 a b c d x0 y0 z0 x1 y1 z1 ≤ x ∧ hul1 a b c d x0 y0 z0 x1 y1 z1 ≤ y ∧ hul2 a b c d x0 y0 z0 x1 y1 z1 ≤ z ∧ x < hul3 a b c d x0 y0 z0 x1 y1 z1 ∧ y < hul4 a b c d x0 y0 z0 x1 y1 z1 ∧ z < hul5 a b c d x0 y0 z0 x1 y1 z1) →
          cond (cmpI .lss x (hul0 a b c d x0 y0 z0 x1 y1 z1)) F (cond (cmpI .lss y (hul1 a b c d x0 y0 z0 x1 y1 z1)) F (cond (cmpI .lss z (hul2 a b c d x0 y0 z0 x1 y1 z1)) F (cond (cmpI .lss x (hul3 a b c d x0 y0 z0 x1 y1 z1)) (cond (cmpI .lss y (hul4 a b c d x0 y0 z0 x1 y1 z1)) ([Sc.bool (cmpI .lss z (hul5 a b c d x0 y0 z0 x1 y1 z1))] = [Sc.bool true]) F) F))) := by
        intro F k
        rw [lss_d, decide_eq_false (by omega), cf, lss_d, decide_eq_false (by omega), cf, lss_d, decide_eq_false (by omega), cf, lss_d, decide_eq_true (by omega), ct, lss_d, decide_eq_true (by omega), ct, lss_d, decide_eq_true (by omega)]
      have BND : hul6 a b c d x0 y0 z0 x1 y1 z1 = 0 → ∀ X F : Prop, X → cond (cmpI .lss (hul0 a b c d x0 y0 z0 x1 y1 z1) x0) F (cond (cmpI .lss (hul1 a b c d x0 y0 z0 x1 y1 z1) y0) F (cond (cmpI .lss (hul2 a b c d x0 y0 z0 x1 y1 z1) z0) F (cond (cmpI .lss x1 (hul3 a b c d x0 y0 z0 x1 y1 z1)) F (cond (cmpI .lss y1 (hul4 a b c d x0 y0 z0 x1 y1 z1)) F (cond (cmpI .lss z1 (hul5 a b c d x0 y0 z0 x1 y1 z1)) F X))))) := by
        intro h6 X F hX
        have k := hull_in h h6
        rw [lss_d, decide_eq_false (by omega), cf, lss_d, decide_eq_false (by omega), cf, lss_d, decide_eq_false (by omega), cf, lss_d, decide_eq_false (by omega), cf, lss_d, decide_eq_false (by omega), cf, lss_d, decide_eq_false (by omega)]
        exact hX
      rw [s1, T1, s0]
      by_cases g : hiE a b c d x0 y0 z0 x1 y1 z1 ≤ 0
      · have e : sidE (loE a b c d x0 y0 z0 x1 y1 z1) (hiE a b c d x0 y0 z0 x1 y1 z1) = 1 := if_pos g
        obtain ⟨k6, k0, k1, k2, k3', k4, k5⟩ := hull_all h g
        have E : (cmpI .eql (hul0 a b c d x0 y0 z0 x1 y1 z1) x0 && (cmpI .eql (hul1 a b c d x0 y0 z0 x1 y1 z1) y0 && (cmpI .eql (hul2 a b c d x0 y0 z0 x1 y1 z1) z0 && (cmpI .eql (hul3 a b c d x0 y0 z0 x1 y1 z1) x1 && (cmpI .eql (hul4 a b c d x0 y0 z0 x1 y1 z1) y1 && cmpI .eql (hul5 a b c d x0 y0 z0 x1 y1 z1) z1))))) = true := by
          simp [eql_d, k0, k1, k2, k3', k4, k5]
        rw [e, T1, E, ct]
        have K6 : cmpI .eql (hul6 a b c d x0 y0 z0 x1 y1 z1) 0 = true := by rw [eql_d]; exact decide_eq_true k6
        rw [K6, ct]
        exact BND k6 _ _ (CELL _ _ _ rfl (FIN _))
      · have e : cmpI .eql (sidE (loE a b c d x0 y0 z0 x1 y1 z1) (hiE a b c d x0 y0 z0 x1 y1 z1)) 1 = false := by
          rw [eql_d]
          refine decide_eq_false ?_
          unfold sidE
          rw [if_neg g]
          split <;> omega
        rw [e, cf]
        by_cases k6 : hul6 a b c d x0 y0 z0 x1 y1 z1 = 0
        · have K6 : cmpI .eql (hul6 a b c d x0 y0 z0 x1 y1 z1) 0 = true := by rw [eql_d]; exact decide_eq_true k6
          rw [K6, ct]
          exact BND k6 _ _ (CELL _ _ _ rfl (FIN _))
        · have K6 : cmpI .eql (hul6 a b c d x0 y0 z0 x1 y1 z1) 0 = false := by rw [eql_d]; exact decide_eq_false k6
          rw [K6, cf]
          exact CELL _ _ _ rfl (fun k => absurd k.1 k6)
    · have s1 : ¬ sid1 a b c d x0 y0 z0 x1 y1 z1 = 0 := h
      rw [eql_d (sid1 a b c d x0 y0 z0 x1 y1 z1) 0, decide_eq_false s1, cf]
      have u : hul6 a b c d x0 y0 z0 x1 y1 z1 = chk2 a b c d x0 y0 z0 x1 y1 z1 := if_neg h
      have v : sid1 a b c d x0 y0 z0 x1 y1 z1 = chk2 a b c d x0 y0 z0 x1 y1 z1 := rfl
      rw [u, v, eql_d, decide_eq_true rfl]
theorem own : ownKnob Try.prog.godebug = none := by kernel_rfl
theorem laidOut : laidOutB Try.prog = true := by kernel_rfl
theorem planeCells_lifted (os : Os) (started : os.Started) (H : Type) (enc : TypeId × Value → H) :
    ReturnsInHanded {} Try.checked os 8 .any (Rows.planeCellsSpec.pre6 enc Try.prog Try.f8 Rows.planeCellsRow.domain false) (Rows.planeCellsSpec.post enc Try.prog Try.f8 false true false false) :=
  law_lifted (A := Try.checked) (rt := Try.f8.resultTypes[0]!) own laidOut started Try.func8 (by kernel_rfl) rfl (ss := [(iv 4), (iv 6), (iv 3)]) (by kernel_rfl) (by kernel_rfl) rfl (by kernel_rfl)
    (fun ds hl => by
        match ds, hl with
        | [d1, d2, d3], _ => exact ⟨rfl, rfl, rfl⟩)
    (ChangeSpec.witness6 (enc := enc) (C := Try.checked) false ⟨#[], #[.agg #[.int .i64 0, .int .i64 0, .int .i64 0, .int .i64 0], .agg #[.int .i64 0, .int .i64 0, .int .i64 0, .int .i64 0, .int .i64 0, .int .i64 0], .agg #[.int .i64 0, .int .i64 0, .int .i64 0]], []⟩ 8 (by kernel_rfl) (by kernel_rfl) (by kernel_rfl) (by kernel_rfl))
    l8
/-- The statement: the hull lies in the box and contains each cell that lies in the half-space. -/
theorem planeCells_holds : Rows.PlaneCellsSaid :=
  OpenClaim.holds_of_wide 8 Try.f8 rfl rfl rfl rfl rfl rfl rfl ⟨rfl, rfl, rfl, rfl, rfl⟩ rfl rfl rfl rfl rfl (by kernel_rfl) Try.func8 (by kernel_rfl)
    (of_decide_eq_true (by kernel_rfl)) (by unfold Func.isWrapper; rw [if_neg (of_decide_eq_false (by kernel_rfl))]; exact ⟨rfl, rfl⟩)
    (fun os started H enc _ => planeCells_lifted os started H enc)
end Go.Proofs.Ytldnlbfchkdoiaa
