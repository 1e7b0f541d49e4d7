/- The kerf seat: the tree of each function. -/
import Derived.Test.YtdfcphfoccgopaaKF0
namespace Go.Proofs.Ytdfcphfoccgopaa
open Go.Sx
set_option linter.unusedVariables false
set_option linter.unusedSimpArgs false
set_option maxRecDepth 100000

theorem t13 (x0 : Int) (y0 : Int) (z0 : Int) (x1 : Int) (y1 : Int) (z1 : Int) (ax : Int) (p : Int) (k : Int) (Q : List Sc → Prop) : (fnT (cfgOf Try.prog sigs [35, 40, 25, 41] [] noLoop) 13 Try.f13 (bodyOf Try.f13) ⟨[(iv 6), (iv 3)], [i1], none, none, none⟩ 100).holds Φ [.int x0, .int y0, .int z0, .int x1, .int y1, .int z1, .int ax, .int p, .int k] (resQ Φ Q) =
  (cond (cmpI .eql (rBck0 x0 y0 z0 x1 y1 z1) 0)
   (cond (rAx0 ax)
    (cond (rKrf0 k)
     (cond (cmpI .lss (rGet0 x0 y0 z0 ax) p)
      (cond (cmpI .lss p (arI .sub .i64 (rGet0 x1 y1 z1 ax) k))
       (Q [.int 0])
       (Q [.int 12]))
      (Q [.int 12]))
     (Q [.int 6]))
    (Q [.int 1]))
   (Q [.int (rBck0 x0 y0 z0 x1 y1 z1)])) := by kernel_rfl
theorem t14 (x0 : Int) (y0 : Int) (z0 : Int) (x1 : Int) (y1 : Int) (z1 : Int) (ax : Int) (p : Int) (k : Int) (Q : List Sc → Prop) : (fnT (cfgOf Try.prog sigs [17, 42, 43] [] noLoop) 14 Try.f14 (bodyOf Try.f14) ⟨[(iv 6), (iv 3)], [(iv 6), (iv 6), (iv 6), i1], none, none, none⟩ 100).holds Φ [.int x0, .int y0, .int z0, .int x1, .int y1, .int z1, .int ax, .int p, .int k] (resQ Φ Q) =
  (cond (cmpI .eql (chk0 x0 y0 z0 x1 y1 z1 ax p k) 0)
   (cond (end'P x0 y0 z0 x1 y1 z1 ax)
   (cond (cmpI .lss 0 k)
    (cond (btwP x0 y0 z0 x1 y1 z1 ax p (arI .add .i64 p k))
    (cond (btwP x0 y0 z0 x1 y1 z1 ax (end'0 x0 y0 z0 x1 y1 z1 ax) p)
    (cond (btwP x0 y0 z0 x1 y1 z1 ax (arI .add .i64 p k) (end'1 x0 y0 z0 x1 y1 z1 ax))
    (Q [.int (btw0 x0 y0 z0 x1 y1 z1 ax (end'0 x0 y0 z0 x1 y1 z1 ax) p), .int (btw1 x0 y0 z0 x1 y1 z1 ax (end'0 x0 y0 z0 x1 y1 z1 ax) p), .int (btw2 x0 y0 z0 x1 y1 z1 ax (end'0 x0 y0 z0 x1 y1 z1 ax) p), .int (btw3 x0 y0 z0 x1 y1 z1 ax (end'0 x0 y0 z0 x1 y1 z1 ax) p), .int (btw4 x0 y0 z0 x1 y1 z1 ax (end'0 x0 y0 z0 x1 y1 z1 ax) p), .int (btw5 x0 y0 z0 x1 y1 z1 ax (end'0 x0 y0 z0 x1 y1 z1 ax) p), .int (btw0 x0 y0 z0 x1 y1 z1 ax p (arI .add .i64 p k)), .int (btw1 x0 y0 z0 x1 y1 z1 ax p (arI .add .i64 p k)), .int (btw2 x0 y0 z0 x1 y1 z1 ax p (arI .add .i64 p k)), .int (btw3 x0 y0 z0 x1 y1 z1 ax p (arI .add .i64 p k)), .int (btw4 x0 y0 z0 x1 y1 z1 ax p (arI .add .i64 p k)), .int (btw5 x0 y0 z0 x1 y1 z1 ax p (arI .add .i64 p k)), .int (btw0 x0 y0 z0 x1 y1 z1 ax (arI .add .i64 p k) (end'1 x0 y0 z0 x1 y1 z1 ax)), .int (btw1 x0 y0 z0 x1 y1 z1 ax (arI .add .i64 p k) (end'1 x0 y0 z0 x1 y1 z1 ax)), .int (btw2 x0 y0 z0 x1 y1 z1 ax (arI .add .i64 p k) (end'1 x0 y0 z0 x1 y1 z1 ax)), .int (btw3 x0 y0 z0 x1 y1 z1 ax (arI .add .i64 p k) (end'1 x0 y0 z0 x1 y1 z1 ax)), .int (btw4 x0 y0 z0 x1 y1 z1 ax (arI .add .i64 p k) (end'1 x0 y0 z0 x1 y1 z1 ax)), .int (btw5 x0 y0 z0 x1 y1 z1 ax (arI .add .i64 p k) (end'1 x0 y0 z0 x1 y1 z1 ax)), .int 0])
    False)
    False)
    False)
    (cond (btwP x0 y0 z0 x1 y1 z1 ax (end'0 x0 y0 z0 x1 y1 z1 ax) p)
    (cond (btwP x0 y0 z0 x1 y1 z1 ax (arI .add .i64 p k) (end'1 x0 y0 z0 x1 y1 z1 ax))
    (Q [.int (btw0 x0 y0 z0 x1 y1 z1 ax (end'0 x0 y0 z0 x1 y1 z1 ax) p), .int (btw1 x0 y0 z0 x1 y1 z1 ax (end'0 x0 y0 z0 x1 y1 z1 ax) p), .int (btw2 x0 y0 z0 x1 y1 z1 ax (end'0 x0 y0 z0 x1 y1 z1 ax) p), .int (btw3 x0 y0 z0 x1 y1 z1 ax (end'0 x0 y0 z0 x1 y1 z1 ax) p), .int (btw4 x0 y0 z0 x1 y1 z1 ax (end'0 x0 y0 z0 x1 y1 z1 ax) p), .int (btw5 x0 y0 z0 x1 y1 z1 ax (end'0 x0 y0 z0 x1 y1 z1 ax) p), .int 0, .int 0, .int 0, .int 0, .int 0, .int 0, .int (btw0 x0 y0 z0 x1 y1 z1 ax (arI .add .i64 p k) (end'1 x0 y0 z0 x1 y1 z1 ax)), .int (btw1 x0 y0 z0 x1 y1 z1 ax (arI .add .i64 p k) (end'1 x0 y0 z0 x1 y1 z1 ax)), .int (btw2 x0 y0 z0 x1 y1 z1 ax (arI .add .i64 p k) (end'1 x0 y0 z0 x1 y1 z1 ax)), .int (btw3 x0 y0 z0 x1 y1 z1 ax (arI .add .i64 p k) (end'1 x0 y0 z0 x1 y1 z1 ax)), .int (btw4 x0 y0 z0 x1 y1 z1 ax (arI .add .i64 p k) (end'1 x0 y0 z0 x1 y1 z1 ax)), .int (btw5 x0 y0 z0 x1 y1 z1 ax (arI .add .i64 p k) (end'1 x0 y0 z0 x1 y1 z1 ax)), .int 0])
    False)
    False))
   False)
   (Q [.int 0, .int 0, .int 0, .int 0, .int 0, .int 0, .int 0, .int 0, .int 0, .int 0, .int 0, .int 0, .int 0, .int 0, .int 0, .int 0, .int 0, .int 0, .int (chk0 x0 y0 z0 x1 y1 z1 ax p k)])) := by kernel_rfl
theorem t15 (ax : Int) (p : Int) (k : Int) (Q : List Sc → Prop) : (fnT (cfgOf Try.prog sigs [] [] noLoop) 15 Try.f15 (bodyOf Try.f15) ⟨[(iv 3)], [(iv 3)], none, none, none⟩ 100).holds Φ [.int ax, .int p, .int k] (resQ Φ Q) =
  (Q [.int ax, .int p, .int k]) := by kernel_rfl
theorem t16 (x0 : Int) (y0 : Int) (z0 : Int) (x1 : Int) (y1 : Int) (z1 : Int) (ax : Int) (p : Int) (k : Int) (Q : List Sc → Prop) : (fnT (cfgOf Try.prog sigs [14, 44] [] noLoop) 16 Try.f16 (bodyOf Try.f16) ⟨[(iv 6), (iv 3)], [i1, i1], none, none, none⟩ 100).holds Φ [.int x0, .int y0, .int z0, .int x1, .int y1, .int z1, .int ax, .int p, .int k] (resQ Φ Q) =
  (cond (cmpI .eql (spl18 x0 y0 z0 x1 y1 z1 ax p k) 0)
   (cond (volP (spl6 x0 y0 z0 x1 y1 z1 ax p k) (spl7 x0 y0 z0 x1 y1 z1 ax p k) (spl8 x0 y0 z0 x1 y1 z1 ax p k) (spl9 x0 y0 z0 x1 y1 z1 ax p k) (spl10 x0 y0 z0 x1 y1 z1 ax p k) (spl11 x0 y0 z0 x1 y1 z1 ax p k))
   (Q [.int (vol0 (spl6 x0 y0 z0 x1 y1 z1 ax p k) (spl7 x0 y0 z0 x1 y1 z1 ax p k) (spl8 x0 y0 z0 x1 y1 z1 ax p k) (spl9 x0 y0 z0 x1 y1 z1 ax p k) (spl10 x0 y0 z0 x1 y1 z1 ax p k) (spl11 x0 y0 z0 x1 y1 z1 ax p k)), .int 0])
   False)
   (Q [.int 0, .int (spl18 x0 y0 z0 x1 y1 z1 ax p k)])) := by kernel_rfl
theorem t17 (x0 : Int) (y0 : Int) (z0 : Int) (x1 : Int) (y1 : Int) (z1 : Int) (ax : Int) (p : Int) (k : Int) (Q : List Sc → Prop) : (fnT (cfgOf Try.prog sigs [46, 47, 48, 45, 42] [] noLoop) 17 Try.f17 (bodyOf Try.f17) ⟨[(iv 6), (iv 3)], [i1], none, none, none⟩ 100).holds Φ [.int x0, .int y0, .int z0, .int x1, .int y1, .int z1, .int ax, .int p, .int k] (resQ Φ Q) =
  (cond (cmpI .eql (fst0 [(bck0 x0 y0 z0 x1 y1 z1), (axl0 ax), (swn0 k)]) 0)
   (cond (end'P x0 y0 z0 x1 y1 z1 ax)
   (cond (cmpI .lss (end'0 x0 y0 z0 x1 y1 z1 ax) p)
    (cond (cmpI .lss p (arI .sub .i64 (end'1 x0 y0 z0 x1 y1 z1 ax) k))
     (Q [.int 0])
     (Q [.int 12]))
    (Q [.int 12]))
   False)
   (Q [.int (fst0 [(bck0 x0 y0 z0 x1 y1 z1), (axl0 ax), (swn0 k)])])) := by kernel_rfl
theorem t18 (x0 : Int) (y0 : Int) (z0 : Int) (x1 : Int) (y1 : Int) (z1 : Int) (ax : Int) (p : Int) (k : Int) (Q : List Sc → Prop) : (fnT (cfgOf Try.prog sigs [49] [] noLoop) 18 Try.f18 (bodyOf Try.f18) ⟨[(iv 6), (iv 3)], [(iv 6), (iv 6), (iv 6)], none, none, none⟩ 100).holds Φ [.int x0, .int y0, .int z0, .int x1, .int y1, .int z1, .int ax, .int p, .int k] (resQ Φ Q) =
  (cond (cmpI .eql k 0)
   (Q [.int x0, .int y0, .int z0, .int (rPut0 x1 y1 z1 ax p), .int (rPut1 x1 y1 z1 ax p), .int (rPut2 x1 y1 z1 ax p), .int 0, .int 0, .int 0, .int 0, .int 0, .int 0, .int (rPut0 x0 y0 z0 ax (arI .add .i64 p k)), .int (rPut1 x0 y0 z0 ax (arI .add .i64 p k)), .int (rPut2 x0 y0 z0 ax (arI .add .i64 p k)), .int x1, .int y1, .int z1])
   (Q [.int x0, .int y0, .int z0, .int (rPut0 x1 y1 z1 ax p), .int (rPut1 x1 y1 z1 ax p), .int (rPut2 x1 y1 z1 ax p), .int (rPut0 x0 y0 z0 ax p), .int (rPut1 x0 y0 z0 ax p), .int (rPut2 x0 y0 z0 ax p), .int (rPut0 x1 y1 z1 ax (arI .add .i64 p k)), .int (rPut1 x1 y1 z1 ax (arI .add .i64 p k)), .int (rPut2 x1 y1 z1 ax (arI .add .i64 p k)), .int (rPut0 x0 y0 z0 ax (arI .add .i64 p k)), .int (rPut1 x0 y0 z0 ax (arI .add .i64 p k)), .int (rPut2 x0 y0 z0 ax (arI .add .i64 p k)), .int x1, .int y1, .int z1])) := by kernel_rfl
theorem t19 (x0 : Int) (y0 : Int) (z0 : Int) (x1 : Int) (y1 : Int) (z1 : Int) (Q : List Sc → Prop) : (fnT (cfgOf Try.prog sigs [] [] noLoop) 19 Try.f19 (bodyOf Try.f19) ⟨[(iv 6)], [i1], none, none, none⟩ 100).holds Φ [.int x0, .int y0, .int z0, .int x1, .int y1, .int z1] (resQ Φ Q) =
  (Q [.int (arI .mul .i64 (arI .mul .i64 (arI .sub .i64 x1 x0) (arI .sub .i64 y1 y0)) (arI .sub .i64 z1 z0))]) := by kernel_rfl
theorem t20 (x0 : Int) (y0 : Int) (z0 : Int) (x1 : Int) (y1 : Int) (z1 : Int) (a0 : Int) (b0 : Int) (c0 : Int) (a1 : Int) (b1 : Int) (c1 : Int) (ax : Int) (Q : List Sc → Prop) : (fnT (cfgOf Try.prog sigs [46, 47, 45, 42, 43] [] noLoop) 20 Try.f20 (bodyOf Try.f20) ⟨[(iv 6), (iv 6), i1], [(iv 6), (iv 3), i1], none, none, none⟩ 100).holds Φ [.int x0, .int y0, .int z0, .int x1, .int y1, .int z1, .int a0, .int b0, .int c0, .int a1, .int b1, .int c1, .int ax] (resQ Φ Q) =
  (cond (cmpI .eql (fst0 [(bck0 x0 y0 z0 x1 y1 z1), (bck0 a0 b0 c0 a1 b1 c1), (axl0 ax)]) 0)
   (cond (end'P x0 y0 z0 x1 y1 z1 ax)
   (cond (end'P a0 b0 c0 a1 b1 c1 ax)
   (cond (btwP x0 y0 z0 x1 y1 z1 ax 0 1)
   (cond (btwP a0 b0 c0 a1 b1 c1 ax 0 1)
   (cond ((cmpI .eql (btw0 x0 y0 z0 x1 y1 z1 ax 0 1) (btw0 a0 b0 c0 a1 b1 c1 ax 0 1)) && ((cmpI .eql (btw1 x0 y0 z0 x1 y1 z1 ax 0 1) (btw1 a0 b0 c0 a1 b1 c1 ax 0 1)) && ((cmpI .eql (btw2 x0 y0 z0 x1 y1 z1 ax 0 1) (btw2 a0 b0 c0 a1 b1 c1 ax 0 1)) && ((cmpI .eql (btw3 x0 y0 z0 x1 y1 z1 ax 0 1) (btw3 a0 b0 c0 a1 b1 c1 ax 0 1)) && ((cmpI .eql (btw4 x0 y0 z0 x1 y1 z1 ax 0 1) (btw4 a0 b0 c0 a1 b1 c1 ax 0 1)) && (cmpI .eql (btw5 x0 y0 z0 x1 y1 z1 ax 0 1) (btw5 a0 b0 c0 a1 b1 c1 ax 0 1)))))))
    (cond (cmpI .lss (end'0 a0 b0 c0 a1 b1 c1 ax) (end'1 x0 y0 z0 x1 y1 z1 ax))
     (Q [.int 0, .int 0, .int 0, .int 0, .int 0, .int 0, .int 0, .int 0, .int 0, .int 10])
     (cond (cmpI .lss 1000 (arI .sub .i64 (end'0 a0 b0 c0 a1 b1 c1 ax) (end'1 x0 y0 z0 x1 y1 z1 ax)))
      (Q [.int 0, .int 0, .int 0, .int 0, .int 0, .int 0, .int 0, .int 0, .int 0, .int 10])
      (cond (btwP x0 y0 z0 x1 y1 z1 ax (end'0 x0 y0 z0 x1 y1 z1 ax) (end'1 a0 b0 c0 a1 b1 c1 ax))
      (Q [.int (btw0 x0 y0 z0 x1 y1 z1 ax (end'0 x0 y0 z0 x1 y1 z1 ax) (end'1 a0 b0 c0 a1 b1 c1 ax)), .int (btw1 x0 y0 z0 x1 y1 z1 ax (end'0 x0 y0 z0 x1 y1 z1 ax) (end'1 a0 b0 c0 a1 b1 c1 ax)), .int (btw2 x0 y0 z0 x1 y1 z1 ax (end'0 x0 y0 z0 x1 y1 z1 ax) (end'1 a0 b0 c0 a1 b1 c1 ax)), .int (btw3 x0 y0 z0 x1 y1 z1 ax (end'0 x0 y0 z0 x1 y1 z1 ax) (end'1 a0 b0 c0 a1 b1 c1 ax)), .int (btw4 x0 y0 z0 x1 y1 z1 ax (end'0 x0 y0 z0 x1 y1 z1 ax) (end'1 a0 b0 c0 a1 b1 c1 ax)), .int (btw5 x0 y0 z0 x1 y1 z1 ax (end'0 x0 y0 z0 x1 y1 z1 ax) (end'1 a0 b0 c0 a1 b1 c1 ax)), .int ax, .int (end'1 x0 y0 z0 x1 y1 z1 ax), .int (arI .sub .i64 (end'0 a0 b0 c0 a1 b1 c1 ax) (end'1 x0 y0 z0 x1 y1 z1 ax)), .int 0])
      False)))
    (Q [.int 0, .int 0, .int 0, .int 0, .int 0, .int 0, .int 0, .int 0, .int 0, .int 10]))
   False)
   False)
   False)
   False)
   (Q [.int 0, .int 0, .int 0, .int 0, .int 0, .int 0, .int 0, .int 0, .int 0, .int (fst0 [(bck0 x0 y0 z0 x1 y1 z1), (bck0 a0 b0 c0 a1 b1 c1), (axl0 ax)])])) := by kernel_rfl
theorem t21 (x0 : Int) (y0 : Int) (z0 : Int) (x1 : Int) (y1 : Int) (z1 : Int) (a0 : Int) (b0 : Int) (c0 : Int) (a1 : Int) (b1 : Int) (c1 : Int) (ax : Int) (Q : List Sc → Prop) : (fnT (cfgOf Try.prog sigs [35, 40, 41, 49] [] noLoop) 21 Try.f21 (bodyOf Try.f21) ⟨[(iv 6), (iv 6), i1], [(iv 6), (iv 3), i1], none, none, none⟩ 100).holds Φ [.int x0, .int y0, .int z0, .int x1, .int y1, .int z1, .int a0, .int b0, .int c0, .int a1, .int b1, .int c1, .int ax] (resQ Φ Q) =
  (cond (cmpI .eql (rBck0 x0 y0 z0 x1 y1 z1) 0)
   (cond (cmpI .eql (rBck0 a0 b0 c0 a1 b1 c1) 0)
    (cond (rAx0 ax)
     (cond (cmpI .lss (rGet0 a0 b0 c0 ax) (rGet0 x1 y1 z1 ax))
      (Q [.int 0, .int 0, .int 0, .int 0, .int 0, .int 0, .int 0, .int 0, .int 0, .int 10])
      (cond (cmpI .lss 1000 (arI .sub .i64 (rGet0 a0 b0 c0 ax) (rGet0 x1 y1 z1 ax)))
       (Q [.int 0, .int 0, .int 0, .int 0, .int 0, .int 0, .int 0, .int 0, .int 0, .int 10])
       (cond ((cmpI .eql (rPut0 x0 y0 z0 ax 0) (rPut0 a0 b0 c0 ax 0)) && ((cmpI .eql (rPut1 x0 y0 z0 ax 0) (rPut1 a0 b0 c0 ax 0)) && (cmpI .eql (rPut2 x0 y0 z0 ax 0) (rPut2 a0 b0 c0 ax 0))))
        (cond ((cmpI .eql (rPut0 x1 y1 z1 ax 0) (rPut0 a1 b1 c1 ax 0)) && ((cmpI .eql (rPut1 x1 y1 z1 ax 0) (rPut1 a1 b1 c1 ax 0)) && (cmpI .eql (rPut2 x1 y1 z1 ax 0) (rPut2 a1 b1 c1 ax 0))))
         (Q [.int x0, .int y0, .int z0, .int a1, .int b1, .int c1, .int ax, .int (rGet0 x1 y1 z1 ax), .int (arI .sub .i64 (rGet0 a0 b0 c0 ax) (rGet0 x1 y1 z1 ax)), .int 0])
         (Q [.int 0, .int 0, .int 0, .int 0, .int 0, .int 0, .int 0, .int 0, .int 0, .int 10]))
        (Q [.int 0, .int 0, .int 0, .int 0, .int 0, .int 0, .int 0, .int 0, .int 0, .int 10]))))
     (Q [.int 0, .int 0, .int 0, .int 0, .int 0, .int 0, .int 0, .int 0, .int 0, .int 1]))
    (Q [.int 0, .int 0, .int 0, .int 0, .int 0, .int 0, .int 0, .int 0, .int 0, .int (rBck0 a0 b0 c0 a1 b1 c1)]))
   (Q [.int 0, .int 0, .int 0, .int 0, .int 0, .int 0, .int 0, .int 0, .int 0, .int (rBck0 x0 y0 z0 x1 y1 z1)])) := by kernel_rfl
theorem t22 (l : Int) (t : Int) (k : Int) (Q : List Sc → Prop) : (fnT (cfgOf Try.prog sigs [50, 48, 45] [] noLoop) 22 Try.f22 (bodyOf Try.f22) ⟨[i1, i1, i1], [i1, i1], none, none, none⟩ 100).holds Φ [.int l, .int t, .int k] (resQ Φ Q) =
  (cond (cmpI .eql (fst0 [(lng0 l), (lng0 t), (swn0 k)]) 0)
   (cond (!(cmpI .eql (arI .add .i64 t k) 0))
   (Q [.int (arI .quo .i64 (arI .add .i64 l k) (arI .add .i64 t k)), .int 0])
   False)
   (Q [.int 0, .int (fst0 [(lng0 l), (lng0 t), (swn0 k)])])) := by kernel_rfl
theorem t23 (l : Int) (s : Int) (k : Int) (Q : List Sc → Prop) : (fnT (cfgOf Try.prog sigs [50, 48] [] noLoop) 23 Try.f23 (bodyOf Try.f23) ⟨[i1, i1, i1], [i1, i1], none, none, none⟩ 100).holds Φ [.int l, .int s, .int k] (resQ Φ Q) =
  (cond (cmpI .eql (lng0 l) 0)
   (cond (cmpI .lss s 1)
    (Q [.int 0, .int 6])
    (cond (cmpI .lss 1000 s)
     (Q [.int 0, .int 6])
     (cond (cmpI .eql (swn0 k) 0)
      (cond (!(cmpI .eql s 0))
      (cond (cmpI .lss (arI .quo .i64 (arI .sub .i64 (arI .add .i64 l k) (arI .mul .i64 s k)) s) 1)
       (Q [.int 0, .int 9])
       (Q [.int (arI .quo .i64 (arI .sub .i64 (arI .add .i64 l k) (arI .mul .i64 s k)) s), .int 0]))
      False)
      (Q [.int 0, .int (swn0 k)]))))
   (Q [.int 0, .int (lng0 l)])) := by kernel_rfl
theorem t24 (n : Int) (Q : List Sc → Prop) : (fnT (cfgOf Try.prog sigs [] [] noLoop) 24 Try.f24 (bodyOf Try.f24) ⟨[i1], [sb], none, none, none⟩ 100).holds Φ [.int n] (resQ Φ Q) =
  (cond (cmpI .lss n 1)
   (Q [.bool false])
   (Q [.bool (!(cmpI .lss 2000000 n))])) := by kernel_rfl
theorem t25 (n : Int) (Q : List Sc → Prop) : (fnT (cfgOf Try.prog sigs [] [] noLoop) 25 Try.f25 (bodyOf Try.f25) ⟨[i1], [sb], none, none, none⟩ 100).holds Φ [.int n] (resQ Φ Q) =
  (cond (cmpI .lss n 0)
   (Q [.bool false])
   (Q [.bool (!(cmpI .lss 1000 n))])) := by kernel_rfl
theorem t26 (l : Int) (t : Int) (k : Int) (Q : List Sc → Prop) : (fnT (cfgOf Try.prog sigs [] [] noLoop) 26 Try.f26 (bodyOf Try.f26) ⟨[i1, i1, i1], [i1], none, none, none⟩ 100).holds Φ [.int l, .int t, .int k] (resQ Φ Q) =
  (cond (!(cmpI .eql (arI .add .i64 t k) 0))
  (Q [.int (arI .quo .i64 (arI .add .i64 l k) (arI .add .i64 t k))])
  False) := by kernel_rfl
theorem t27 (l : Int) (s : Int) (k : Int) (Q : List Sc → Prop) : (fnT (cfgOf Try.prog sigs [] [] noLoop) 27 Try.f27 (bodyOf Try.f27) ⟨[i1, i1, i1], [i1], none, none, none⟩ 100).holds Φ [.int l, .int s, .int k] (resQ Φ Q) =
  (cond (cmpI .lss (arI .sub .i64 l (arI .mul .i64 (arI .sub .i64 s 1) k)) 0)
   (Q [.int 0])
   (cond (!(cmpI .eql s 0))
   (Q [.int (arI .quo .i64 (arI .sub .i64 l (arI .mul .i64 (arI .sub .i64 s 1) k)) s)])
   False)) := by kernel_rfl
theorem t30 (x0 : Int) (y0 : Int) (z0 : Int) (x1 : Int) (y1 : Int) (z1 : Int) (ax : Int) (t : Int) (k : Int) (Q : List Sc → Prop) : (fnT (cfgOf Try.prog sigs [35, 40, 24, 25, 41, 26] [] noLoop) 30 Try.f30 (bodyOf Try.f30) ⟨[(iv 6), i1, i1, i1], [i1], none, none, none⟩ 100).holds Φ [.int x0, .int y0, .int z0, .int x1, .int y1, .int z1, .int ax, .int t, .int k] (resQ Φ Q) =
  (cond (cmpI .eql (rBck0 x0 y0 z0 x1 y1 z1) 0)
   (cond (rAx0 ax)
    (cond (rLen0 t)
     (cond (rKrf0 k)
      (cond (rMstP (arI .sub .i64 (rGet0 x1 y1 z1 ax) (rGet0 x0 y0 z0 ax)) t k)
      (cond (cmpI .eql (rMst0 (arI .sub .i64 (rGet0 x1 y1 z1 ax) (rGet0 x0 y0 z0 ax)) t k) 0)
       (Q [.int 9])
       (cond (cmpI .lss 1000 (rMst0 (arI .sub .i64 (rGet0 x1 y1 z1 ax) (rGet0 x0 y0 z0 ax)) t k))
        (Q [.int 7])
        (Q [.int 0])))
      False)
      (Q [.int 6]))
     (Q [.int 6]))
    (Q [.int 1]))
   (Q [.int (rBck0 x0 y0 z0 x1 y1 z1)])) := by kernel_rfl
theorem t35 (x0 : Int) (y0 : Int) (z0 : Int) (x1 : Int) (y1 : Int) (z1 : Int) (Q : List Sc → Prop) : (fnT (cfgOf Try.prog sigs [54] [] noLoop) 35 Try.f35 (bodyOf Try.f35) ⟨[(iv 6)], [i1], none, none, none⟩ 100).holds Φ [.int x0, .int y0, .int z0, .int x1, .int y1, .int z1] (resQ Φ Q) =
  (cond (cmpI .lss (rat0 x0 y0 z0 0) (-1000000))
   (Q [.int 6])
   (cond (cmpI .lss 1000000 (rat0 x0 y0 z0 0))
    (Q [.int 6])
    (cond (cmpI .lss (rat0 x1 y1 z1 0) (-1000000))
     (Q [.int 6])
     (cond (cmpI .lss 1000000 (rat0 x1 y1 z1 0))
      (Q [.int 6])
      (cond (cmpI .lss (rat0 x0 y0 z0 1) (-1000000))
       (Q [.int 6])
       (cond (cmpI .lss 1000000 (rat0 x0 y0 z0 1))
        (Q [.int 6])
        (cond (cmpI .lss (rat0 x1 y1 z1 1) (-1000000))
         (Q [.int 6])
         (cond (cmpI .lss 1000000 (rat0 x1 y1 z1 1))
          (Q [.int 6])
          (cond (cmpI .lss (rat0 x0 y0 z0 2) (-1000000))
           (Q [.int 6])
           (cond (cmpI .lss 1000000 (rat0 x0 y0 z0 2))
            (Q [.int 6])
            (cond (cmpI .lss (rat0 x1 y1 z1 2) (-1000000))
             (Q [.int 6])
             (cond (cmpI .lss 1000000 (rat0 x1 y1 z1 2))
              (Q [.int 6])
              (cond (cmpI .lss (rat0 x0 y0 z0 0) (rat0 x1 y1 z1 0))
               (cond (cmpI .lss (rat0 x0 y0 z0 1) (rat0 x1 y1 z1 1))
                (cond (cmpI .lss (rat0 x0 y0 z0 2) (rat0 x1 y1 z1 2))
                 (Q [.int 0])
                 (Q [.int 1]))
                (Q [.int 1]))
               (Q [.int 1])))))))))))))) := by kernel_rfl
theorem t38 (x0 : Int) (y0 : Int) (z0 : Int) (x1 : Int) (y1 : Int) (z1 : Int) (Q : List Sc → Prop) : (fnT (cfgOf Try.prog sigs [] [] noLoop) 38 Try.f38 (bodyOf Try.f38) ⟨[(iv 6)], [i1], none, none, none⟩ 100).holds Φ [.int x0, .int y0, .int z0, .int x1, .int y1, .int z1] (resQ Φ Q) =
  (Q [.int (arI .mul .i64 (arI .mul .i64 (arI .sub .i64 x1 x0) (arI .sub .i64 y1 y0)) (arI .sub .i64 z1 z0))]) := by kernel_rfl
theorem t39  (Q : List Sc → Prop) : (fnT (cfgOf Try.prog sigs [] [] noLoop) 39 Try.f39 (bodyOf Try.f39) ⟨[], [(iv 6)], none, none, none⟩ 100).holds Φ [] (resQ Φ Q) =
  (Q [.int 0, .int 0, .int 0, .int 100, .int 10, .int 10]) := by kernel_rfl
theorem t40 (n : Int) (Q : List Sc → Prop) : (fnT (cfgOf Try.prog sigs [] [] noLoop) 40 Try.f40 (bodyOf Try.f40) ⟨[i1], [sb], none, none, none⟩ 100).holds Φ [.int n] (resQ Φ Q) =
  (cond (cmpI .lss n 0)
   (Q [.bool false])
   (Q [.bool (!(cmpI .lss 2 n))])) := by kernel_rfl
theorem t41 (x : Int) (y : Int) (z : Int) (ax : Int) (Q : List Sc → Prop) : (fnT (cfgOf Try.prog sigs [] [] noLoop) 41 Try.f41 (bodyOf Try.f41) ⟨[(iv 3), i1], [i1], none, none, none⟩ 100).holds Φ [.int x, .int y, .int z, .int ax] (resQ Φ Q) =
  (cond (cmpI .eql ax 0)
   (Q [.int x])
   (cond (cmpI .eql ax 1)
    (Q [.int y])
    (Q [.int z]))) := by kernel_rfl
theorem t42 (x0 : Int) (y0 : Int) (z0 : Int) (x1 : Int) (y1 : Int) (z1 : Int) (ax : Int) (Q : List Sc → Prop) : (fnT (cfgOf Try.prog sigs [55] [] noLoop) 42 Try.f42 (bodyOf Try.f42) ⟨[(iv 6), i1], [i1, i1], none, none, none⟩ 100).holds Φ [.int x0, .int y0, .int z0, .int x1, .int y1, .int z1, .int ax] (resQ Φ Q) =
  (cond (cmpI .eql ax 0)
   (Q [.int x0, .int x1])
   (cond (cmpI .eql ax 1)
    (Q [.int y0, .int y1])
    (cond (cmpI .eql ax 2)
     (Q [.int z0, .int z1])
     False))) := by kernel_rfl
theorem t43 (x0 : Int) (y0 : Int) (z0 : Int) (x1 : Int) (y1 : Int) (z1 : Int) (ax : Int) (lo : Int) (hi : Int) (Q : List Sc → Prop) : (fnT (cfgOf Try.prog sigs [55] [] noLoop) 43 Try.f43 (bodyOf Try.f43) ⟨[(iv 6), i1, i1, i1], [(iv 6)], none, none, none⟩ 100).holds Φ [.int x0, .int y0, .int z0, .int x1, .int y1, .int z1, .int ax, .int lo, .int hi] (resQ Φ Q) =
  (cond (cmpI .eql ax 0)
   (Q [.int lo, .int y0, .int z0, .int hi, .int y1, .int z1])
   (cond (cmpI .eql ax 1)
    (Q [.int x0, .int lo, .int z0, .int x1, .int hi, .int z1])
    (cond (cmpI .eql ax 2)
     (Q [.int x0, .int y0, .int lo, .int x1, .int y1, .int hi])
     False))) := by kernel_rfl
theorem t44 (x0 : Int) (y0 : Int) (z0 : Int) (x1 : Int) (y1 : Int) (z1 : Int) (Q : List Sc → Prop) : (fnT (cfgOf Try.prog sigs [] [] noLoop) 44 Try.f44 (bodyOf Try.f44) ⟨[(iv 6)], [i1], none, none, none⟩ 100).holds Φ [.int x0, .int y0, .int z0, .int x1, .int y1, .int z1] (resQ Φ Q) =
  (Q [.int (arI .mul .i64 (arI .mul .i64 (arI .sub .i64 x1 x0) (arI .sub .i64 y1 y0)) (arI .sub .i64 z1 z0))]) := by kernel_rfl
theorem t46 (x0 : Int) (y0 : Int) (z0 : Int) (x1 : Int) (y1 : Int) (z1 : Int) (Q : List Sc → Prop) : (fnT (cfgOf Try.prog sigs [56, 57] [] noLoop) 46 Try.f46 (bodyOf Try.f46) ⟨[(iv 6)], [i1], none, none, none⟩ 100).holds Φ [.int x0, .int y0, .int z0, .int x1, .int y1, .int z1] (resQ Φ Q) =
  (cond (bin0 (sds0 x0 y0 z0 x1 y1 z1))
   (cond (bin0 (sds1 x0 y0 z0 x1 y1 z1))
    (cond (bin0 (sds2 x0 y0 z0 x1 y1 z1))
     (cond (bin0 (sds3 x0 y0 z0 x1 y1 z1))
      (cond (bin0 (sds4 x0 y0 z0 x1 y1 z1))
       (cond (bin0 (sds5 x0 y0 z0 x1 y1 z1))
        (cond (cmpI .lss (sds0 x0 y0 z0 x1 y1 z1) (sds1 x0 y0 z0 x1 y1 z1))
         (cond (cmpI .lss (sds2 x0 y0 z0 x1 y1 z1) (sds3 x0 y0 z0 x1 y1 z1))
          (cond (cmpI .lss (sds4 x0 y0 z0 x1 y1 z1) (sds5 x0 y0 z0 x1 y1 z1))
           (Q [.int 0])
           (Q [.int 1]))
          (Q [.int 1]))
         (Q [.int 1]))
        (Q [.int 6]))
       (Q [.int 6]))
      (Q [.int 6]))
     (Q [.int 6]))
    (Q [.int 6]))
   (Q [.int 6])) := by kernel_rfl
theorem t47 (n : Int) (Q : List Sc → Prop) : (fnT (cfgOf Try.prog sigs [] [] noLoop) 47 Try.f47 (bodyOf Try.f47) ⟨[i1], [i1], none, none, none⟩ 100).holds Φ [.int n] (resQ Φ Q) =
  (cond (cmpI .lss n 0)
   (Q [.int 1])
   (cond (cmpI .lss 2 n)
    (Q [.int 1])
    (Q [.int 0]))) := by kernel_rfl
theorem t48 (n : Int) (Q : List Sc → Prop) : (fnT (cfgOf Try.prog sigs [] [] noLoop) 48 Try.f48 (bodyOf Try.f48) ⟨[i1], [i1], none, none, none⟩ 100).holds Φ [.int n] (resQ Φ Q) =
  (cond (cmpI .lss n 0)
   (Q [.int 6])
   (cond (cmpI .lss 1000 n)
    (Q [.int 6])
    (Q [.int 0]))) := by kernel_rfl
theorem t49 (x : Int) (y : Int) (z : Int) (ax : Int) (n : Int) (Q : List Sc → Prop) : (fnT (cfgOf Try.prog sigs [] [] noLoop) 49 Try.f49 (bodyOf Try.f49) ⟨[(iv 3), i1, i1], [(iv 3)], none, none, none⟩ 100).holds Φ [.int x, .int y, .int z, .int ax, .int n] (resQ Φ Q) =
  (cond (cmpI .eql ax 0)
   (Q [.int n, .int y, .int z])
   (cond (cmpI .eql ax 1)
    (Q [.int x, .int n, .int z])
    (cond (cmpI .eql ax 2)
     (Q [.int x, .int y, .int n])
     (Q [.int x, .int y, .int z])))) := by kernel_rfl
theorem t50 (n : Int) (Q : List Sc → Prop) : (fnT (cfgOf Try.prog sigs [] [] noLoop) 50 Try.f50 (bodyOf Try.f50) ⟨[i1], [i1], none, none, none⟩ 100).holds Φ [.int n] (resQ Φ Q) =
  (cond (cmpI .lss n 1)
   (Q [.int 6])
   (cond (cmpI .lss 2000000 n)
    (Q [.int 6])
    (Q [.int 0]))) := by kernel_rfl
theorem t51 (x0 : Int) (y0 : Int) (z0 : Int) (x1 : Int) (y1 : Int) (z1 : Int) (ax : Int) (t : Int) (k : Int) (Q : List Sc → Prop) : (fnT (cfgOf Try.prog sigs [46, 47, 50, 48, 45, 42] [] noLoop) 51 Try.f51 (bodyOf Try.f51) ⟨[(iv 6), i1, i1, i1], [i1, i1], none, none, none⟩ 100).holds Φ [.int x0, .int y0, .int z0, .int x1, .int y1, .int z1, .int ax, .int t, .int k] (resQ Φ Q) =
  (cond (cmpI .eql (fst0 [(bck0 x0 y0 z0 x1 y1 z1), (axl0 ax), (lng0 t), (swn0 k)]) 0)
   (cond (end'P x0 y0 z0 x1 y1 z1 ax)
   (cond (!(cmpI .eql (arI .add .i64 t k) 0))
   (cond (cmpI .eql (arI .quo .i64 (arI .add .i64 (arI .sub .i64 (end'1 x0 y0 z0 x1 y1 z1 ax) (end'0 x0 y0 z0 x1 y1 z1 ax)) k) (arI .add .i64 t k)) 0)
    (Q [.int 0, .int 9])
    (cond (cmpI .lss 1000 (arI .quo .i64 (arI .add .i64 (arI .sub .i64 (end'1 x0 y0 z0 x1 y1 z1 ax) (end'0 x0 y0 z0 x1 y1 z1 ax)) k) (arI .add .i64 t k)))
     (Q [.int 0, .int 7])
     (Q [.int (arI .quo .i64 (arI .add .i64 (arI .sub .i64 (end'1 x0 y0 z0 x1 y1 z1 ax) (end'0 x0 y0 z0 x1 y1 z1 ax)) k) (arI .add .i64 t k)), .int 0])))
   False)
   False)
   (Q [.int 0, .int (fst0 [(bck0 x0 y0 z0 x1 y1 z1), (axl0 ax), (lng0 t), (swn0 k)])])) := by kernel_rfl
theorem t52 (x0 : Int) (y0 : Int) (z0 : Int) (x1 : Int) (y1 : Int) (z1 : Int) (a0 : Int) (b0 : Int) (c0 : Int) (a1 : Int) (b1 : Int) (c1 : Int) (Q : List Sc → Prop) : (fnT (cfgOf Try.prog sigs [56] [] noLoop) 52 Try.f52 (bodyOf Try.f52) ⟨[(iv 6), (iv 6)], [sb], none, none, none⟩ 100).holds Φ [.int x0, .int y0, .int z0, .int x1, .int y1, .int z1, .int a0, .int b0, .int c0, .int a1, .int b1, .int c1] (resQ Φ Q) =
  (cond (cmpI .lss (sds0 x0 y0 z0 x1 y1 z1) (sds0 a0 b0 c0 a1 b1 c1))
   (Q [.bool false])
   (cond (cmpI .lss (sds1 a0 b0 c0 a1 b1 c1) (sds1 x0 y0 z0 x1 y1 z1))
    (Q [.bool false])
    (cond (cmpI .lss (sds2 x0 y0 z0 x1 y1 z1) (sds2 a0 b0 c0 a1 b1 c1))
     (Q [.bool false])
     (cond (cmpI .lss (sds3 a0 b0 c0 a1 b1 c1) (sds3 x0 y0 z0 x1 y1 z1))
      (Q [.bool false])
      (cond (cmpI .lss (sds4 x0 y0 z0 x1 y1 z1) (sds4 a0 b0 c0 a1 b1 c1))
       (Q [.bool false])
       (cond (cmpI .lss (sds5 a0 b0 c0 a1 b1 c1) (sds5 x0 y0 z0 x1 y1 z1))
        (Q [.bool false])
        (Q [.bool true]))))))) := by kernel_rfl
theorem t54 (x : Int) (y : Int) (z : Int) (ax : Int) (Q : List Sc → Prop) : (fnT (cfgOf Try.prog sigs [] [] noLoop) 54 Try.f54 (bodyOf Try.f54) ⟨[(iv 3), i1], [i1], none, none, none⟩ 100).holds Φ [.int x, .int y, .int z, .int ax] (resQ Φ Q) =
  (cond (cmpI .eql ax 0)
   (Q [.int x])
   (cond (cmpI .eql ax 1)
    (Q [.int y])
    (Q [.int z]))) := by kernel_rfl
theorem t56 (x0 : Int) (y0 : Int) (z0 : Int) (x1 : Int) (y1 : Int) (z1 : Int) (Q : List Sc → Prop) : (fnT (cfgOf Try.prog sigs [] [] noLoop) 56 Try.f56 (bodyOf Try.f56) ⟨[(iv 6)], [(iv 6)], none, none, none⟩ 100).holds Φ [.int x0, .int y0, .int z0, .int x1, .int y1, .int z1] (resQ Φ Q) =
  (Q [.int x0, .int x1, .int y0, .int y1, .int z0, .int z1]) := by kernel_rfl
theorem t57 (n : Int) (Q : List Sc → Prop) : (fnT (cfgOf Try.prog sigs [] [] noLoop) 57 Try.f57 (bodyOf Try.f57) ⟨[i1], [sb], none, none, none⟩ 100).holds Φ [.int n] (resQ Φ Q) =
  (cond (cmpI .lss n (-1000000))
   (Q [.bool false])
   (Q [.bool (!(cmpI .lss 1000000 n))])) := by kernel_rfl
end Go.Proofs.Ytdfcphfoccgopaa
