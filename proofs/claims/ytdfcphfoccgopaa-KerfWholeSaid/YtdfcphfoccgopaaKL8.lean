/- The kerf seat, the volumes of both parts and the loss of a cut add up to the volume of the box, and Join of the parts gives the box and the cut; for every input, without a condition. -/
import Derived.Test.YtdfcphfoccgopaaKF3
import Derived.Test.YtdfcphfoccgopaaRows
namespace Go.Proofs.Ytdfcphfoccgopaa
open Go.Sx
set_option linter.unusedVariables false
set_option linter.unusedSimpArgs false
set_option maxRecDepth 100000
open Go.ChangeShapes Go.WideShapes Go.ChangeAt Go.RowKit
theorem t8 (x0 : Int) (y0 : Int) (z0 : Int) (x1 : Int) (y1 : Int) (z1 : Int) (ax : Int) (p : Int) (k : Int) (Q : List Sc → Prop) : (fnT (cfgOf Try.prog sigs [12, 14, 16, 20, 38] [] noLoop) 8 Try.f8 (bodyOf Try.f8) ⟨[(iv 6), (iv 3)], [sb], none, none, none⟩ 100).holds Φ [.int x0, .int y0, .int z0, .int x1, .int y1, .int z1, .int ax, .int p, .int k] (resQ Φ Q) =
  (cond awk0
   (cond (cmpI .eql (spl18 x0 y0 z0 x1 y1 z1 ax p k) 0)
    (cond (cmpI .eql (los1 x0 y0 z0 x1 y1 z1 ax p k) 0)
     (cond (lvolP (spl0 x0 y0 z0 x1 y1 z1 ax p k) (spl1 x0 y0 z0 x1 y1 z1 ax p k) (spl2 x0 y0 z0 x1 y1 z1 ax p k) (spl3 x0 y0 z0 x1 y1 z1 ax p k) (spl4 x0 y0 z0 x1 y1 z1 ax p k) (spl5 x0 y0 z0 x1 y1 z1 ax p k))
     (cond (lvolP (spl12 x0 y0 z0 x1 y1 z1 ax p k) (spl13 x0 y0 z0 x1 y1 z1 ax p k) (spl14 x0 y0 z0 x1 y1 z1 ax p k) (spl15 x0 y0 z0 x1 y1 z1 ax p k) (spl16 x0 y0 z0 x1 y1 z1 ax p k) (spl17 x0 y0 z0 x1 y1 z1 ax p k))
     (cond (lvolP x0 y0 z0 x1 y1 z1)
     (cond (cmpI .eql (arI .add .i64 (arI .add .i64 (lvol0 (spl0 x0 y0 z0 x1 y1 z1 ax p k) (spl1 x0 y0 z0 x1 y1 z1 ax p k) (spl2 x0 y0 z0 x1 y1 z1 ax p k) (spl3 x0 y0 z0 x1 y1 z1 ax p k) (spl4 x0 y0 z0 x1 y1 z1 ax p k) (spl5 x0 y0 z0 x1 y1 z1 ax p k)) (los0 x0 y0 z0 x1 y1 z1 ax p k)) (lvol0 (spl12 x0 y0 z0 x1 y1 z1 ax p k) (spl13 x0 y0 z0 x1 y1 z1 ax p k) (spl14 x0 y0 z0 x1 y1 z1 ax p k) (spl15 x0 y0 z0 x1 y1 z1 ax p k) (spl16 x0 y0 z0 x1 y1 z1 ax p k) (spl17 x0 y0 z0 x1 y1 z1 ax p k))) (lvol0 x0 y0 z0 x1 y1 z1))
      (cond (lvolP (spl6 x0 y0 z0 x1 y1 z1 ax p k) (spl7 x0 y0 z0 x1 y1 z1 ax p k) (spl8 x0 y0 z0 x1 y1 z1 ax p k) (spl9 x0 y0 z0 x1 y1 z1 ax p k) (spl10 x0 y0 z0 x1 y1 z1 ax p k) (spl11 x0 y0 z0 x1 y1 z1 ax p k))
      (cond (cmpI .eql (lvol0 (spl6 x0 y0 z0 x1 y1 z1 ax p k) (spl7 x0 y0 z0 x1 y1 z1 ax p k) (spl8 x0 y0 z0 x1 y1 z1 ax p k) (spl9 x0 y0 z0 x1 y1 z1 ax p k) (spl10 x0 y0 z0 x1 y1 z1 ax p k) (spl11 x0 y0 z0 x1 y1 z1 ax p k)) (los0 x0 y0 z0 x1 y1 z1 ax p k))
       (cond (lvolP (spl0 x0 y0 z0 x1 y1 z1 ax p k) (spl1 x0 y0 z0 x1 y1 z1 ax p k) (spl2 x0 y0 z0 x1 y1 z1 ax p k) (spl3 x0 y0 z0 x1 y1 z1 ax p k) (spl4 x0 y0 z0 x1 y1 z1 ax p k) (spl5 x0 y0 z0 x1 y1 z1 ax p k))
       (cond (cmpI .lss 0 (lvol0 (spl0 x0 y0 z0 x1 y1 z1 ax p k) (spl1 x0 y0 z0 x1 y1 z1 ax p k) (spl2 x0 y0 z0 x1 y1 z1 ax p k) (spl3 x0 y0 z0 x1 y1 z1 ax p k) (spl4 x0 y0 z0 x1 y1 z1 ax p k) (spl5 x0 y0 z0 x1 y1 z1 ax p k)))
        (cond (lvolP (spl12 x0 y0 z0 x1 y1 z1 ax p k) (spl13 x0 y0 z0 x1 y1 z1 ax p k) (spl14 x0 y0 z0 x1 y1 z1 ax p k) (spl15 x0 y0 z0 x1 y1 z1 ax p k) (spl16 x0 y0 z0 x1 y1 z1 ax p k) (spl17 x0 y0 z0 x1 y1 z1 ax p k))
        (cond (cmpI .lss 0 (lvol0 (spl12 x0 y0 z0 x1 y1 z1 ax p k) (spl13 x0 y0 z0 x1 y1 z1 ax p k) (spl14 x0 y0 z0 x1 y1 z1 ax p k) (spl15 x0 y0 z0 x1 y1 z1 ax p k) (spl16 x0 y0 z0 x1 y1 z1 ax p k) (spl17 x0 y0 z0 x1 y1 z1 ax p k)))
         (cond (cmpI .eql (joi9 (spl0 x0 y0 z0 x1 y1 z1 ax p k) (spl1 x0 y0 z0 x1 y1 z1 ax p k) (spl2 x0 y0 z0 x1 y1 z1 ax p k) (spl3 x0 y0 z0 x1 y1 z1 ax p k) (spl4 x0 y0 z0 x1 y1 z1 ax p k) (spl5 x0 y0 z0 x1 y1 z1 ax p k) (spl12 x0 y0 z0 x1 y1 z1 ax p k) (spl13 x0 y0 z0 x1 y1 z1 ax p k) (spl14 x0 y0 z0 x1 y1 z1 ax p k) (spl15 x0 y0 z0 x1 y1 z1 ax p k) (spl16 x0 y0 z0 x1 y1 z1 ax p k) (spl17 x0 y0 z0 x1 y1 z1 ax p k) ax) 0)
          (cond ((cmpI .eql (joi0 (spl0 x0 y0 z0 x1 y1 z1 ax p k) (spl1 x0 y0 z0 x1 y1 z1 ax p k) (spl2 x0 y0 z0 x1 y1 z1 ax p k) (spl3 x0 y0 z0 x1 y1 z1 ax p k) (spl4 x0 y0 z0 x1 y1 z1 ax p k) (spl5 x0 y0 z0 x1 y1 z1 ax p k) (spl12 x0 y0 z0 x1 y1 z1 ax p k) (spl13 x0 y0 z0 x1 y1 z1 ax p k) (spl14 x0 y0 z0 x1 y1 z1 ax p k) (spl15 x0 y0 z0 x1 y1 z1 ax p k) (spl16 x0 y0 z0 x1 y1 z1 ax p k) (spl17 x0 y0 z0 x1 y1 z1 ax p k) ax) x0) && ((cmpI .eql (joi1 (spl0 x0 y0 z0 x1 y1 z1 ax p k) (spl1 x0 y0 z0 x1 y1 z1 ax p k) (spl2 x0 y0 z0 x1 y1 z1 ax p k) (spl3 x0 y0 z0 x1 y1 z1 ax p k) (spl4 x0 y0 z0 x1 y1 z1 ax p k) (spl5 x0 y0 z0 x1 y1 z1 ax p k) (spl12 x0 y0 z0 x1 y1 z1 ax p k) (spl13 x0 y0 z0 x1 y1 z1 ax p k) (spl14 x0 y0 z0 x1 y1 z1 ax p k) (spl15 x0 y0 z0 x1 y1 z1 ax p k) (spl16 x0 y0 z0 x1 y1 z1 ax p k) (spl17 x0 y0 z0 x1 y1 z1 ax p k) ax) y0) && ((cmpI .eql (joi2 (spl0 x0 y0 z0 x1 y1 z1 ax p k) (spl1 x0 y0 z0 x1 y1 z1 ax p k) (spl2 x0 y0 z0 x1 y1 z1 ax p k) (spl3 x0 y0 z0 x1 y1 z1 ax p k) (spl4 x0 y0 z0 x1 y1 z1 ax p k) (spl5 x0 y0 z0 x1 y1 z1 ax p k) (spl12 x0 y0 z0 x1 y1 z1 ax p k) (spl13 x0 y0 z0 x1 y1 z1 ax p k) (spl14 x0 y0 z0 x1 y1 z1 ax p k) (spl15 x0 y0 z0 x1 y1 z1 ax p k) (spl16 x0 y0 z0 x1 y1 z1 ax p k) (spl17 x0 y0 z0 x1 y1 z1 ax p k) ax) z0) && ((cmpI .eql (joi3 (spl0 x0 y0 z0 x1 y1 z1 ax p k) (spl1 x0 y0 z0 x1 y1 z1 ax p k) (spl2 x0 y0 z0 x1 y1 z1 ax p k) (spl3 x0 y0 z0 x1 y1 z1 ax p k) (spl4 x0 y0 z0 x1 y1 z1 ax p k) (spl5 x0 y0 z0 x1 y1 z1 ax p k) (spl12 x0 y0 z0 x1 y1 z1 ax p k) (spl13 x0 y0 z0 x1 y1 z1 ax p k) (spl14 x0 y0 z0 x1 y1 z1 ax p k) (spl15 x0 y0 z0 x1 y1 z1 ax p k) (spl16 x0 y0 z0 x1 y1 z1 ax p k) (spl17 x0 y0 z0 x1 y1 z1 ax p k) ax) x1) && ((cmpI .eql (joi4 (spl0 x0 y0 z0 x1 y1 z1 ax p k) (spl1 x0 y0 z0 x1 y1 z1 ax p k) (spl2 x0 y0 z0 x1 y1 z1 ax p k) (spl3 x0 y0 z0 x1 y1 z1 ax p k) (spl4 x0 y0 z0 x1 y1 z1 ax p k) (spl5 x0 y0 z0 x1 y1 z1 ax p k) (spl12 x0 y0 z0 x1 y1 z1 ax p k) (spl13 x0 y0 z0 x1 y1 z1 ax p k) (spl14 x0 y0 z0 x1 y1 z1 ax p k) (spl15 x0 y0 z0 x1 y1 z1 ax p k) (spl16 x0 y0 z0 x1 y1 z1 ax p k) (spl17 x0 y0 z0 x1 y1 z1 ax p k) ax) y1) && (cmpI .eql (joi5 (spl0 x0 y0 z0 x1 y1 z1 ax p k) (spl1 x0 y0 z0 x1 y1 z1 ax p k) (spl2 x0 y0 z0 x1 y1 z1 ax p k) (spl3 x0 y0 z0 x1 y1 z1 ax p k) (spl4 x0 y0 z0 x1 y1 z1 ax p k) (spl5 x0 y0 z0 x1 y1 z1 ax p k) (spl12 x0 y0 z0 x1 y1 z1 ax p k) (spl13 x0 y0 z0 x1 y1 z1 ax p k) (spl14 x0 y0 z0 x1 y1 z1 ax p k) (spl15 x0 y0 z0 x1 y1 z1 ax p k) (spl16 x0 y0 z0 x1 y1 z1 ax p k) (spl17 x0 y0 z0 x1 y1 z1 ax p k) ax) z1))))))
           (Q [.bool ((cmpI .eql (joi6 (spl0 x0 y0 z0 x1 y1 z1 ax p k) (spl1 x0 y0 z0 x1 y1 z1 ax p k) (spl2 x0 y0 z0 x1 y1 z1 ax p k) (spl3 x0 y0 z0 x1 y1 z1 ax p k) (spl4 x0 y0 z0 x1 y1 z1 ax p k) (spl5 x0 y0 z0 x1 y1 z1 ax p k) (spl12 x0 y0 z0 x1 y1 z1 ax p k) (spl13 x0 y0 z0 x1 y1 z1 ax p k) (spl14 x0 y0 z0 x1 y1 z1 ax p k) (spl15 x0 y0 z0 x1 y1 z1 ax p k) (spl16 x0 y0 z0 x1 y1 z1 ax p k) (spl17 x0 y0 z0 x1 y1 z1 ax p k) ax) ax) && ((cmpI .eql (joi7 (spl0 x0 y0 z0 x1 y1 z1 ax p k) (spl1 x0 y0 z0 x1 y1 z1 ax p k) (spl2 x0 y0 z0 x1 y1 z1 ax p k) (spl3 x0 y0 z0 x1 y1 z1 ax p k) (spl4 x0 y0 z0 x1 y1 z1 ax p k) (spl5 x0 y0 z0 x1 y1 z1 ax p k) (spl12 x0 y0 z0 x1 y1 z1 ax p k) (spl13 x0 y0 z0 x1 y1 z1 ax p k) (spl14 x0 y0 z0 x1 y1 z1 ax p k) (spl15 x0 y0 z0 x1 y1 z1 ax p k) (spl16 x0 y0 z0 x1 y1 z1 ax p k) (spl17 x0 y0 z0 x1 y1 z1 ax p k) ax) p) && (cmpI .eql (joi8 (spl0 x0 y0 z0 x1 y1 z1 ax p k) (spl1 x0 y0 z0 x1 y1 z1 ax p k) (spl2 x0 y0 z0 x1 y1 z1 ax p k) (spl3 x0 y0 z0 x1 y1 z1 ax p k) (spl4 x0 y0 z0 x1 y1 z1 ax p k) (spl5 x0 y0 z0 x1 y1 z1 ax p k) (spl12 x0 y0 z0 x1 y1 z1 ax p k) (spl13 x0 y0 z0 x1 y1 z1 ax p k) (spl14 x0 y0 z0 x1 y1 z1 ax p k) (spl15 x0 y0 z0 x1 y1 z1 ax p k) (spl16 x0 y0 z0 x1 y1 z1 ax p k) (spl17 x0 y0 z0 x1 y1 z1 ax p k) ax) k)))])
           (Q [.bool false]))
          (Q [.bool false]))
         (Q [.bool false]))
        False)
        (Q [.bool false]))
       False)
       (Q [.bool false]))
      False)
      (Q [.bool false]))
     False)
     False)
     False)
     (Q [.bool false]))
    (cond ((cmpI .eql (spl0 x0 y0 z0 x1 y1 z1 ax p k) 0) && ((cmpI .eql (spl1 x0 y0 z0 x1 y1 z1 ax p k) 0) && ((cmpI .eql (spl2 x0 y0 z0 x1 y1 z1 ax p k) 0) && ((cmpI .eql (spl3 x0 y0 z0 x1 y1 z1 ax p k) 0) && ((cmpI .eql (spl4 x0 y0 z0 x1 y1 z1 ax p k) 0) && (cmpI .eql (spl5 x0 y0 z0 x1 y1 z1 ax p k) 0))))))
     (cond ((cmpI .eql (spl6 x0 y0 z0 x1 y1 z1 ax p k) 0) && ((cmpI .eql (spl7 x0 y0 z0 x1 y1 z1 ax p k) 0) && ((cmpI .eql (spl8 x0 y0 z0 x1 y1 z1 ax p k) 0) && ((cmpI .eql (spl9 x0 y0 z0 x1 y1 z1 ax p k) 0) && ((cmpI .eql (spl10 x0 y0 z0 x1 y1 z1 ax p k) 0) && (cmpI .eql (spl11 x0 y0 z0 x1 y1 z1 ax p k) 0))))))
      (Q [.bool ((cmpI .eql (spl12 x0 y0 z0 x1 y1 z1 ax p k) 0) && ((cmpI .eql (spl13 x0 y0 z0 x1 y1 z1 ax p k) 0) && ((cmpI .eql (spl14 x0 y0 z0 x1 y1 z1 ax p k) 0) && ((cmpI .eql (spl15 x0 y0 z0 x1 y1 z1 ax p k) 0) && ((cmpI .eql (spl16 x0 y0 z0 x1 y1 z1 ax p k) 0) && (cmpI .eql (spl17 x0 y0 z0 x1 y1 z1 ax p k) 0))))))])
      (Q [.bool false]))
     (Q [.bool false])))
   (Q [.bool false])) := by kernel_rfl
theorem sum1 (a b c Y Z : Int) : a * Y * Z + b * Y * Z + c * Y * Z = (a + b + c) * Y * Z := by rw [← Int.add_mul, ← Int.add_mul, ← Int.add_mul, ← Int.add_mul]
theorem sum2 (a b c X Z : Int) : X * a * Z + X * b * Z + X * c * Z = X * (a + b + c) * Z := by rw [← Int.add_mul, ← Int.add_mul, ← Int.mul_add, ← Int.mul_add]
theorem sum3 (a b c X Y : Int) : X * Y * a + X * Y * b + X * Y * c = X * Y * (a + b + c) := by rw [← Int.mul_add, ← Int.mul_add]
theorem midV (x0 y0 z0 x1 y1 z1 k : Int) (h : 0 ≤ k) (hv : k = 0 → volE x0 y0 z0 x1 y1 z1 = 0) : volE (if 0 < k then x0 else 0) (if 0 < k then y0 else 0) (if 0 < k then z0 else 0) (if 0 < k then x1 else 0) (if 0 < k then y1 else 0) (if 0 < k then z1 else 0) = volE x0 y0 z0 x1 y1 z1 := by
  by_cases hk : 0 < k
  · simp only [if_pos hk]
  · simp only [if_neg hk]
    rw [hv (by omega)]
    rfl
theorem pos3 {a b c : Int} (ha : 0 < a) (hb : 0 < b) (hc : 0 < c) : 0 < a * b * c := Int.mul_pos (Int.mul_pos ha hb) hc
theorem parts {x0 y0 z0 x1 y1 z1 ax p k : Int} (h : chkC x0 y0 z0 x1 y1 z1 ax p k = 0) :
    inB x0 y0 z0 (pX x1 ax p) (pY y1 ax p) (pZ z1 ax p) = true ∧ inB (pX x0 ax (p + k)) (pY y0 ax (p + k)) (pZ z0 ax (p + k)) x1 y1 z1 = true ∧ inB x0 y0 z0 x1 y1 z1 = true ∧
    volE x0 y0 z0 (pX x1 ax p) (pY y1 ax p) (pZ z1 ax p) + volE (if 0 < k then pX x0 ax p else 0) (if 0 < k then pY y0 ax p else 0) (if 0 < k then pZ z0 ax p else 0) (if 0 < k then pX x1 ax (p + k) else 0) (if 0 < k then pY y1 ax (p + k) else 0) (if 0 < k then pZ z1 ax (p + k) else 0) + volE (pX x0 ax (p + k)) (pY y0 ax (p + k)) (pZ z0 ax (p + k)) x1 y1 z1 = volE x0 y0 z0 x1 y1 z1 ∧
    0 < volE x0 y0 z0 (pX x1 ax p) (pY y1 ax p) (pZ z1 ax p) ∧ 0 < volE (pX x0 ax (p + k)) (pY y0 ax (p + k)) (pZ z0 ax (p + k)) x1 y1 z1 ∧
    0 ≤ volE (if 0 < k then pX x0 ax p else 0) (if 0 < k then pY y0 ax p else 0) (if 0 < k then pZ z0 ax p else 0) (if 0 < k then pX x1 ax (p + k) else 0) (if 0 < k then pY y1 ax (p + k) else 0) (if 0 < k then pZ z1 ax (p + k) else 0) ∧ volE x0 y0 z0 x1 y1 z1 ≤ 8000000000000000000 ∧
    joiE x0 y0 z0 (pX x1 ax p) (pY y1 ax p) (pZ z1 ax p) (pX x0 ax (p + k)) (pY y0 ax (p + k)) (pZ z0 ax (p + k)) x1 y1 z1 ax = 0 ∧
    gx (pX x1 ax p) (pY y1 ax p) (pZ z1 ax p) ax = p ∧ gx (pX x0 ax (p + k)) (pY y0 ax (p + k)) (pZ z0 ax (p + k)) ax = p + k := by
  obtain ⟨h1, h2, h3, h4⟩ := chkC_ok.1 h
  obtain ⟨hb, o1, o2, o3⟩ := chkB_ok.1 h1
  have hV : volE x0 y0 z0 x1 y1 z1 ≤ 8000000000000000000 := by
    simp only [inB, Bool.and_eq_true, in3_iff] at hb
    have m1 := mul_bd (a := x1 - x0) (b := y1 - y0) (A := 2000000) (B := 2000000) (by omega) (by omega) (by omega) (by omega)
    have m2 := mul_bd (a := (x1 - x0) * (y1 - y0)) (b := z1 - z0) (A := 4000000000000) (B := 2000000) (by omega) (by omega) (by omega) (by omega)
    unfold volE
    omega
  have hb' := hb
  simp only [inB, Bool.and_eq_true] at hb'
  have g0 := gx_bd (ax := ax) hb'.1
  have g1 := gx_bd (ax := ax) hb'.2
  have hk := h3
  rw [inK_iff] at hk
  have hp := in3_put (ax := ax) (n := p) hb'.2 (by omega) (by omega)
  have hq := in3_put (ax := ax) (n := p + k) hb'.1 (by omega) (by omega)
  have b1 : inB x0 y0 z0 (pX x1 ax p) (pY y1 ax p) (pZ z1 ax p) = true := by unfold inB; rw [hb'.1, hp]; rfl
  have b2 : inB (pX x0 ax (p + k)) (pY y0 ax (p + k)) (pZ z0 ax (p + k)) x1 y1 z1 = true := by unfold inB; rw [hb'.2, hq]; rfl
  refine ⟨b1, b2, hb, ?_⟩
  have n2 : p + k - p ≤ 1000 := by omega
  have n1 : p ≤ p + k := by omega
  rcases ax3 h2 with rfl | rfl | rfl
  · have a0 : x0 < p := h4.1
    have a1 : p < x1 - k := h4.2
    have b1 : inB x0 y0 z0 p y1 z1 = true := b1
    have b2 : inB (p + k) y0 z0 x1 y1 z1 = true := b2
    have c1 : chkB x0 y0 z0 p y1 z1 = 0 := chkB_ok.2 ⟨b1, by omega, by omega, by omega⟩
    have c2 : chkB (p + k) y0 z0 x1 y1 z1 = 0 := chkB_ok.2 ⟨b2, by omega, by omega, by omega⟩
    show volE x0 y0 z0 p y1 z1 + volE (if 0 < k then p else 0) (if 0 < k then y0 else 0) (if 0 < k then z0 else 0) (if 0 < k then (p + k) else 0) (if 0 < k then y1 else 0) (if 0 < k then z1 else 0) + volE (p + k) y0 z0 x1 y1 z1 = volE x0 y0 z0 x1 y1 z1 ∧
      0 < volE x0 y0 z0 p y1 z1 ∧ 0 < volE (p + k) y0 z0 x1 y1 z1 ∧ 0 ≤ volE (if 0 < k then p else 0) (if 0 < k then y0 else 0) (if 0 < k then z0 else 0) (if 0 < k then (p + k) else 0) (if 0 < k then y1 else 0) (if 0 < k then z1 else 0) ∧ volE x0 y0 z0 x1 y1 z1 ≤ 8000000000000000000 ∧ joiE x0 y0 z0 p y1 z1 (p + k) y0 z0 x1 y1 z1 0 = 0 ∧ p = p ∧ p + k = p + k
    have hm : volE (if 0 < k then p else 0) (if 0 < k then y0 else 0) (if 0 < k then z0 else 0) (if 0 < k then (p + k) else 0) (if 0 < k then y1 else 0) (if 0 < k then z1 else 0) = volE p y0 z0 (p + k) y1 z1 := midV _ _ _ _ _ _ k (by omega) (fun e => by subst e; simp [volE])
    rw [hm]
    refine ⟨?_, pos3 (by omega) (by omega) (by omega), pos3 (by omega) (by omega) (by omega), ?_, hV, ?_, rfl, rfl⟩
    · unfold volE
      rw [sum1 (p - x0) (p + k - p) (x1 - (p + k)) (y1 - y0) (z1 - z0), show p - x0 + (p + k - p) + (x1 - (p + k)) = x1 - x0 by omega]
    · unfold volE
      exact Int.mul_nonneg (Int.mul_nonneg (by omega) (by omega)) (by omega)
    · unfold joiE
      rw [if_pos c1, if_pos c2, if_pos h2]
      simp [gx, n1, n2]
  · have a0 : y0 < p := h4.1
    have a1 : p < y1 - k := h4.2
    have b1 : inB x0 y0 z0 x1 p z1 = true := b1
    have b2 : inB x0 (p + k) z0 x1 y1 z1 = true := b2
    have c1 : chkB x0 y0 z0 x1 p z1 = 0 := chkB_ok.2 ⟨b1, by omega, by omega, by omega⟩
    have c2 : chkB x0 (p + k) z0 x1 y1 z1 = 0 := chkB_ok.2 ⟨b2, by omega, by omega, by omega⟩
    show volE x0 y0 z0 x1 p z1 + volE (if 0 < k then x0 else 0) (if 0 < k then p else 0) (if 0 < k then z0 else 0) (if 0 < k then x1 else 0) (if 0 < k then (p + k) else 0) (if 0 < k then z1 else 0) + volE x0 (p + k) z0 x1 y1 z1 = volE x0 y0 z0 x1 y1 z1 ∧
      0 < volE x0 y0 z0 x1 p z1 ∧ 0 < volE x0 (p + k) z0 x1 y1 z1 ∧ 0 ≤ volE (if 0 < k then x0 else 0) (if 0 < k then p else 0) (if 0 < k then z0 else 0) (if 0 < k then x1 else 0) (if 0 < k then (p + k) else 0) (if 0 < k then z1 else 0) ∧ volE x0 y0 z0 x1 y1 z1 ≤ 8000000000000000000 ∧ joiE x0 y0 z0 x1 p z1 x0 (p + k) z0 x1 y1 z1 1 = 0 ∧ p = p ∧ p + k = p + k
    have hm : volE (if 0 < k then x0 else 0) (if 0 < k then p else 0) (if 0 < k then z0 else 0) (if 0 < k then x1 else 0) (if 0 < k then (p + k) else 0) (if 0 < k then z1 else 0) = volE x0 p z0 x1 (p + k) z1 := midV _ _ _ _ _ _ k (by omega) (fun e => by subst e; simp [volE])
    rw [hm]
    refine ⟨?_, pos3 (by omega) (by omega) (by omega), pos3 (by omega) (by omega) (by omega), ?_, hV, ?_, rfl, rfl⟩
    · unfold volE
      rw [sum2 (p - y0) (p + k - p) (y1 - (p + k)) (x1 - x0) (z1 - z0), show p - y0 + (p + k - p) + (y1 - (p + k)) = y1 - y0 by omega]
    · unfold volE
      exact Int.mul_nonneg (Int.mul_nonneg (by omega) (by omega)) (by omega)
    · unfold joiE
      rw [if_pos c1, if_pos c2, if_pos h2]
      simp [gx, n1, n2]
  · have a0 : z0 < p := h4.1
    have a1 : p < z1 - k := h4.2
    have b1 : inB x0 y0 z0 x1 y1 p = true := b1
    have b2 : inB x0 y0 (p + k) x1 y1 z1 = true := b2
    have c1 : chkB x0 y0 z0 x1 y1 p = 0 := chkB_ok.2 ⟨b1, by omega, by omega, by omega⟩
    have c2 : chkB x0 y0 (p + k) x1 y1 z1 = 0 := chkB_ok.2 ⟨b2, by omega, by omega, by omega⟩
    show volE x0 y0 z0 x1 y1 p + volE (if 0 < k then x0 else 0) (if 0 < k then y0 else 0) (if 0 < k then p else 0) (if 0 < k then x1 else 0) (if 0 < k then y1 else 0) (if 0 < k then (p + k) else 0) + volE x0 y0 (p + k) x1 y1 z1 = volE x0 y0 z0 x1 y1 z1 ∧
      0 < volE x0 y0 z0 x1 y1 p ∧ 0 < volE x0 y0 (p + k) x1 y1 z1 ∧ 0 ≤ volE (if 0 < k then x0 else 0) (if 0 < k then y0 else 0) (if 0 < k then p else 0) (if 0 < k then x1 else 0) (if 0 < k then y1 else 0) (if 0 < k then (p + k) else 0) ∧ volE x0 y0 z0 x1 y1 z1 ≤ 8000000000000000000 ∧ joiE x0 y0 z0 x1 y1 p x0 y0 (p + k) x1 y1 z1 2 = 0 ∧ p = p ∧ p + k = p + k
    have hm : volE (if 0 < k then x0 else 0) (if 0 < k then y0 else 0) (if 0 < k then p else 0) (if 0 < k then x1 else 0) (if 0 < k then y1 else 0) (if 0 < k then (p + k) else 0) = volE x0 y0 p x1 y1 (p + k) := midV _ _ _ _ _ _ k (by omega) (fun e => by subst e; simp [volE])
    rw [hm]
    refine ⟨?_, pos3 (by omega) (by omega) (by omega), pos3 (by omega) (by omega) (by omega), ?_, hV, ?_, rfl, rfl⟩
    · unfold volE
      rw [sum3 (p - z0) (p + k - p) (z1 - (p + k)) (x1 - x0) (y1 - y0), show p - z0 + (p + k - p) + (z1 - (p + k)) = z1 - z0 by omega]
    · unfold volE
      exact Int.mul_nonneg (Int.mul_nonneg (by omega) (by omega)) (by omega)
    · unfold joiE
      rw [if_pos c1, if_pos c2, if_pos h2]
      simp [gx, n1, n2]

theorem l8 : ∀ l, InRange [(iv 6), (iv 3)] l → ∀ W, GG W → Calls Try.prog 8 (packs [(iv 6), (iv 3)] l).toArray W fun e w' => e = .returned (.bool true) ∧ Below W.heap.size W w' :=
  law_of [12, 14, 16, 20, 38] [] noLoop 100 mixed Try.func8 (by kernel_rfl) (forall_cons c12 (forall_cons c14 (forall_cons c16 (forall_cons c20 (forall_cons c38 forall_nil))))) fun l0 hl0 => by
    obtain ⟨x0, l1, rfl, r0, hl1⟩ := range_i64 hl0
    obtain ⟨y0, l2, rfl, r1, hl2⟩ := range_i64 hl1
    obtain ⟨z0, l3, rfl, r2, hl3⟩ := range_i64 hl2
    obtain ⟨x1, l4, rfl, r3, hl4⟩ := range_i64 hl3
    obtain ⟨y1, l5, rfl, r4, hl5⟩ := range_i64 hl4
    obtain ⟨z1, l6, rfl, r5, hl6⟩ := range_i64 hl5
    obtain ⟨ax, l7, rfl, r6, hl7⟩ := range_i64 hl6
    obtain ⟨p, l8, rfl, r7, hl8⟩ := range_i64 hl7
    obtain ⟨k, l9, rfl, r8, hl9⟩ := range_i64 hl8
    cases range_nil hl9
    clear hl9 hl8 hl7 hl6 hl5 hl4 hl3 hl2 hl1 hl0
    show T.holds _ _ _ (resQ Φ fun rs => rs = [.bool true])
    rw [t8]
    have ha : awk0 = true := rfl
    rw [ha]
    by_cases h : chkC x0 y0 z0 x1 y1 z1 ax p k = 0
    · obtain ⟨v1, v2, v3, v4, v5, v6, v7, v8, v9, v10, v11⟩ := parts h
      have hm := mid_in h
      simp only [spl0, spl1, spl2, spl3, spl4, spl5, spl6, spl7, spl8, spl9, spl10, spl11, spl12, spl13, spl14, spl15, spl16, spl17, spl18, los0, los1, joi0, joi1, joi2, joi3, joi4, joi5, joi6, joi7, joi8, joi9, lvol0, lvolP, h, if_true, eql_d, lss_d, decide_true, cond_true]
      rw [v1, v2, v3, hm, v9, v10, v11]
      rw [ar_add (a := volE x0 y0 z0 (pX x1 ax p) (pY y1 ax p) (pZ z1 ax p)) (by omega) (by omega), ar_add (by omega) (by omega), v4]
      have e : p + k - p = k := by omega
      simp [v5, v6, e]
    · simp [spl0, spl1, spl2, spl3, spl4, spl5, spl6, spl7, spl8, spl9, spl10, spl11, spl12, spl13, spl14, spl15, spl16, spl17, spl18, los0, los1, eql_d, h]
theorem own : ownKnob Try.prog.godebug = none := by kernel_rfl
theorem laidOut : laidOutB Try.prog = true := by kernel_rfl
theorem kerfWhole_lifted (os : Os) (started : os.Started) (H : Type) (enc : TypeId × Value → H) :
    ReturnsInHanded {} Try.checked os 8 .any (Rows.kerfWholeSpec.pre6 enc Try.prog Try.f8 Rows.kerfWholeRow.domain false) (Rows.kerfWholeSpec.post enc Try.prog Try.f8 false true false false) :=
  law_lifted (A := Try.checked) (rt := Try.f8.resultTypes[0]!) own laidOut started Try.func8 (by kernel_rfl) rfl (ss := [(iv 6), (iv 3)]) (by kernel_rfl) (by kernel_rfl) rfl (by kernel_rfl)
    (fun ds hl => by
        match ds, hl with
        | [d1, d2], _ => exact ⟨rfl, rfl, rfl⟩)
    (ChangeSpec.witness6 (enc := enc) (C := Try.checked) false ⟨#[], #[.agg #[.int .i64 0, .int .i64 0, .int .i64 0, .int .i64 0, .int .i64 0, .int .i64 0], .agg #[.int .i64 0, .int .i64 0, .int .i64 0]], []⟩ 8 (by kernel_rfl) (by kernel_rfl) (by kernel_rfl) (by kernel_rfl))
    l8 (fun _ => trivial)
/-- The statement: the volumes of both parts and the loss of a cut add up to the volume of the box, and Join of the parts gives the box and the cut. -/
theorem kerfWhole_holds : Rows.KerfWholeSaid :=
  OpenClaim.holds_of_wide 8 Try.f8 rfl rfl rfl rfl rfl rfl rfl ⟨rfl, rfl, rfl, rfl, rfl⟩ rfl rfl rfl rfl rfl (by kernel_rfl) Try.func8 (by kernel_rfl)
    (of_decide_eq_true (by kernel_rfl)) (by unfold Func.isWrapper; rw [if_neg (of_decide_eq_false (by kernel_rfl))]; exact ⟨rfl, rfl⟩)
    (fun os started H enc _ => kerfWhole_lifted os started H enc)
end Go.Proofs.Ytdfcphfoccgopaa
