/- The vector seat: the tree of each function. -/
import Derived.Test.YtoffcodhcbgbdaaV0
namespace Go.Proofs.Ytoffcodhcbgbdaa
open Go.Sx
set_option linter.unusedVariables false
set_option linter.unusedSimpArgs false
set_option maxRecDepth 100000

theorem t12  (Q : List Sc → Prop) : (fnT (cfgOf Try.prog sigs [24, 25, 13, 16, 21, 17, 23] [41, 51, 53, 52] noLoop) 12 Try.f12 (bodyOf Try.f12) ⟨[], [b1]⟩ 100).holds Φ [] (resQ Φ Q) =
  (cond (cmpI .eql (dot1 1 2 3 4 5 6) 0)
   (cond (cmpI .eql (dot0 1 2 3 4 5 6) 32)
    (cond (cmpI .eql (crs3 1 2 3 4 5 6) 0)
     (cond ((cmpI .eql (crs0 1 2 3 4 5 6) (-3)) && ((cmpI .eql (crs1 1 2 3 4 5 6) 6) && (cmpI .eql (crs2 1 2 3 4 5 6) (-3))))
      (cond (cmpI .eql (prm4 6 (-9) 0) 0)
       (cond ((cmpI .eql (prm0 6 (-9) 0) 2) && ((cmpI .eql (prm1 6 (-9) 0) (-3)) && (cmpI .eql (prm2 6 (-9) 0) 0)))
        (cond (cmpI .eql (prm3 6 (-9) 0) 3)
         (cond (cmpI .eql (tn1 0 0 10 0 5 1) 0)
          (cond (cmpI .eql (tn0 0 0 10 0 5 1) 1)
           (cond (cmpI .eql (met1 0 0 10 10 0 10 10 0) 0)
            (cond (cmpI .eql (met0 0 0 10 10 0 10 10 0) 1)
             (cond (cmpI .eql (onn1 0 0 10 0 5 0) 0)
              (cond (onn0 0 0 10 0 5 0)
               (Q [.bool (cmpI .eql (cmpV0 0 0 0 0 0 1) (-1))])
               (Q [.bool false]))
              (Q [.bool false]))
             (Q [.bool false]))
            (Q [.bool false]))
           (Q [.bool false]))
          (Q [.bool false]))
         (Q [.bool false]))
        (Q [.bool false]))
       (Q [.bool false]))
      (Q [.bool false]))
     (Q [.bool false]))
    (Q [.bool false]))
   (Q [.bool false])) := by kernel_rfl
theorem t13 : fnT (cfgOf Try.prog sigs [32, 36, 37] [41, 51, 53, 52] (fun f r => if f = 13 ∧ r = 11 then some ⟨[(7, .int .i64), (9, .int .i64)], []⟩ else none)) 13 Try.f13 (bodyOf Try.f13) ⟨[(iv 3)], [(iv 3), i1, i1]⟩ 100 =
  (.need (.pre 32 (.cons (.toI (.var 0)) (.cons (.toI (.var 1)) (.cons (.toI (.var 2)) .nil))))
  (.ite (.cmp .eql (.app 32 (.cons (.toI (.var 0)) (.cons (.toI (.var 1)) (.cons (.toI (.var 2)) .nil))) 0) (.int 0))
   (.ite (.and (.cmp .eql (.var 0) (.int 0)) (.and (.cmp .eql (.var 1) (.int 0)) (.cmp .eql (.var 2) (.int 0))))
    (.leaf (.res [(.toI (.int 0)), (.toI (.int 0)), (.toI (.int 0)), (.toI (.int 0)), (.toI (.int 1))]))
    (.need (.pre 36 (.cons (.toI (.var 0)) (.cons (.toI (.var 1)) (.cons (.toI (.var 2)) .nil))))
    (.loop [(.int 0), (.app 36 (.cons (.toI (.var 0)) (.cons (.toI (.var 1)) (.cons (.toI (.var 2)) .nil))) 0)]
     (.ite (.cmp .eql (.var 4) (.int 0))
      (.loop [(.var 3), (.app 36 (.cons (.toI (.var 0)) (.cons (.toI (.var 1)) (.cons (.toI (.var 2)) .nil))) 1)]
       (.ite (.cmp .eql (.var 6) (.int 0))
        (.loop [(.var 5), (.app 36 (.cons (.toI (.var 0)) (.cons (.toI (.var 1)) (.cons (.toI (.var 2)) .nil))) 2)]
         (.ite (.cmp .eql (.var 8) (.int 0))
          (.need (.c (.not (.cmp .eql (.mx (.var 7) (.ar .sub .i64 (.int 0) (.var 7))) (.int 0))))
          (.need (.c (.not (.cmp .eql (.mx (.var 7) (.ar .sub .i64 (.int 0) (.var 7))) (.int 0))))
          (.need (.c (.not (.cmp .eql (.mx (.var 7) (.ar .sub .i64 (.int 0) (.var 7))) (.int 0))))
          (.need (.pre 37 (.cons (.toI (.ar .quo .i64 (.app 36 (.cons (.toI (.var 0)) (.cons (.toI (.var 1)) (.cons (.toI (.var 2)) .nil))) 0) (.mx (.var 7) (.ar .sub .i64 (.int 0) (.var 7))))) (.cons (.toI (.ar .quo .i64 (.app 36 (.cons (.toI (.var 0)) (.cons (.toI (.var 1)) (.cons (.toI (.var 2)) .nil))) 1) (.mx (.var 7) (.ar .sub .i64 (.int 0) (.var 7))))) (.cons (.toI (.ar .quo .i64 (.app 36 (.cons (.toI (.var 0)) (.cons (.toI (.var 1)) (.cons (.toI (.var 2)) .nil))) 2) (.mx (.var 7) (.ar .sub .i64 (.int 0) (.var 7))))) .nil))))
          (.leaf (.res [(.toI (.app 37 (.cons (.toI (.ar .quo .i64 (.app 36 (.cons (.toI (.var 0)) (.cons (.toI (.var 1)) (.cons (.toI (.var 2)) .nil))) 0) (.mx (.var 7) (.ar .sub .i64 (.int 0) (.var 7))))) (.cons (.toI (.ar .quo .i64 (.app 36 (.cons (.toI (.var 0)) (.cons (.toI (.var 1)) (.cons (.toI (.var 2)) .nil))) 1) (.mx (.var 7) (.ar .sub .i64 (.int 0) (.var 7))))) (.cons (.toI (.ar .quo .i64 (.app 36 (.cons (.toI (.var 0)) (.cons (.toI (.var 1)) (.cons (.toI (.var 2)) .nil))) 2) (.mx (.var 7) (.ar .sub .i64 (.int 0) (.var 7))))) .nil))) 0)), (.toI (.app 37 (.cons (.toI (.ar .quo .i64 (.app 36 (.cons (.toI (.var 0)) (.cons (.toI (.var 1)) (.cons (.toI (.var 2)) .nil))) 0) (.mx (.var 7) (.ar .sub .i64 (.int 0) (.var 7))))) (.cons (.toI (.ar .quo .i64 (.app 36 (.cons (.toI (.var 0)) (.cons (.toI (.var 1)) (.cons (.toI (.var 2)) .nil))) 1) (.mx (.var 7) (.ar .sub .i64 (.int 0) (.var 7))))) (.cons (.toI (.ar .quo .i64 (.app 36 (.cons (.toI (.var 0)) (.cons (.toI (.var 1)) (.cons (.toI (.var 2)) .nil))) 2) (.mx (.var 7) (.ar .sub .i64 (.int 0) (.var 7))))) .nil))) 1)), (.toI (.app 37 (.cons (.toI (.ar .quo .i64 (.app 36 (.cons (.toI (.var 0)) (.cons (.toI (.var 1)) (.cons (.toI (.var 2)) .nil))) 0) (.mx (.var 7) (.ar .sub .i64 (.int 0) (.var 7))))) (.cons (.toI (.ar .quo .i64 (.app 36 (.cons (.toI (.var 0)) (.cons (.toI (.var 1)) (.cons (.toI (.var 2)) .nil))) 1) (.mx (.var 7) (.ar .sub .i64 (.int 0) (.var 7))))) (.cons (.toI (.ar .quo .i64 (.app 36 (.cons (.toI (.var 0)) (.cons (.toI (.var 1)) (.cons (.toI (.var 2)) .nil))) 2) (.mx (.var 7) (.ar .sub .i64 (.int 0) (.var 7))))) .nil))) 2)), (.toI (.mx (.var 7) (.ar .sub .i64 (.int 0) (.var 7)))), (.toI (.int 0))]))))))
          (.leaf (.cont 0 [(.var 8), (.ar .rem .i64 (.var 7) (.var 8))]))))
        (.leaf (.cont 0 [(.var 6), (.ar .rem .i64 (.var 5) (.var 6))]))))
      (.leaf (.cont 0 [(.var 4), (.ar .rem .i64 (.var 3) (.var 4))]))))))
   (.leaf (.res [(.toI (.int 0)), (.toI (.int 0)), (.toI (.int 0)), (.toI (.int 0)), (.toI (.app 32 (.cons (.toI (.var 0)) (.cons (.toI (.var 1)) (.cons (.toI (.var 2)) .nil))) 0))])))) := by kernel_rfl
theorem t14 (x : Int) (y : Int) (z : Int) (Q : List Sc → Prop) : (fnT (cfgOf Try.prog sigs [38] [41, 51, 53, 52] noLoop) 14 Try.f14 (bodyOf Try.f14) ⟨[(iv 3)], [b1]⟩ 100).holds Φ [.int x, .int y, .int z] (resQ Φ Q) =
  (cond (rin0 x)
   (cond (rin0 y)
    (Q [.bool (rin0 z)])
    (Q [.bool false]))
   (Q [.bool false])) := by kernel_rfl
theorem t15 (x : Int) (y : Int) (z : Int) (Q : List Sc → Prop) : (fnT (cfgOf Try.prog sigs [40, 39] [41, 51, 53, 52] noLoop) 15 Try.f15 (bodyOf Try.f15) ⟨[(iv 3)], [(iv 3), i1]⟩ 100).holds Φ [.int x, .int y, .int z] (resQ Φ Q) =
  (cond (ablP x)
  (cond (ablP y)
  (cond (dvsP (abl0 x) (abl0 y))
  (cond (ablP z)
  (cond (dvsP (dvs0 (abl0 x) (abl0 y)) (abl0 z))
  (cond (!(cmpI .eql (dvs0 (dvs0 (abl0 x) (abl0 y)) (abl0 z)) 0))
  (cond (!(cmpI .eql (dvs0 (dvs0 (abl0 x) (abl0 y)) (abl0 z)) 0))
  (cond (!(cmpI .eql (dvs0 (dvs0 (abl0 x) (abl0 y)) (abl0 z)) 0))
  (Q [.int (arI .quo .i64 x (dvs0 (dvs0 (abl0 x) (abl0 y)) (abl0 z))), .int (arI .quo .i64 y (dvs0 (dvs0 (abl0 x) (abl0 y)) (abl0 z))), .int (arI .quo .i64 z (dvs0 (dvs0 (abl0 x) (abl0 y)) (abl0 z))), .int (dvs0 (dvs0 (abl0 x) (abl0 y)) (abl0 z))])
  False)
  False)
  False)
  False)
  False)
  False)
  False)
  False) := by kernel_rfl
theorem t16 (ax : Int) (ay : Int) (bx : Int) (by' : Int) (cx : Int) (cy : Int) (Q : List Sc → Prop) : (fnT (cfgOf Try.prog sigs [42] [41, 51, 53, 52] noLoop) 16 Try.f16 (bodyOf Try.f16) ⟨[(iv 2), (iv 2), (iv 2)], [i1, i1]⟩ 100).holds Φ [.int ax, .int ay, .int bx, .int by', .int cx, .int cy] (resQ Φ Q) =
  (cond (cmpI .lss ax (-1000000))
   (Q [.int 0, .int 6])
   (cond (cmpI .lss 1000000 ax)
    (Q [.int 0, .int 6])
    (cond (cmpI .lss ay (-1000000))
     (Q [.int 0, .int 6])
     (cond (cmpI .lss 1000000 ay)
      (Q [.int 0, .int 6])
      (cond (cmpI .lss bx (-1000000))
       (Q [.int 0, .int 6])
       (cond (cmpI .lss 1000000 bx)
        (Q [.int 0, .int 6])
        (cond (cmpI .lss by' (-1000000))
         (Q [.int 0, .int 6])
         (cond (cmpI .lss 1000000 by')
          (Q [.int 0, .int 6])
          (cond (cmpI .lss cx (-1000000))
           (Q [.int 0, .int 6])
           (cond (cmpI .lss 1000000 cx)
            (Q [.int 0, .int 6])
            (cond (cmpI .lss cy (-1000000))
             (Q [.int 0, .int 6])
             (cond (cmpI .lss 1000000 cy)
              (Q [.int 0, .int 6])
              (Q [.int (tur0 ax ay bx by' cx cy), .int 0]))))))))))))) := by kernel_rfl
theorem t17 (ax : Int) (ay : Int) (bx : Int) (by' : Int) (cx : Int) (cy : Int) (Q : List Sc → Prop) : (fnT (cfgOf Try.prog sigs [43] [41, 51, 53, 52] noLoop) 17 Try.f17 (bodyOf Try.f17) ⟨[(iv 2), (iv 2), (iv 2)], [b1, i1]⟩ 100).holds Φ [.int ax, .int ay, .int bx, .int by', .int cx, .int cy] (resQ Φ Q) =
  (cond (cmpI .lss ax (-1000000))
   (Q [.bool false, .int 6])
   (cond (cmpI .lss 1000000 ax)
    (Q [.bool false, .int 6])
    (cond (cmpI .lss ay (-1000000))
     (Q [.bool false, .int 6])
     (cond (cmpI .lss 1000000 ay)
      (Q [.bool false, .int 6])
      (cond (cmpI .lss bx (-1000000))
       (Q [.bool false, .int 6])
       (cond (cmpI .lss 1000000 bx)
        (Q [.bool false, .int 6])
        (cond (cmpI .lss by' (-1000000))
         (Q [.bool false, .int 6])
         (cond (cmpI .lss 1000000 by')
          (Q [.bool false, .int 6])
          (cond (cmpI .lss cx (-1000000))
           (Q [.bool false, .int 6])
           (cond (cmpI .lss 1000000 cx)
            (Q [.bool false, .int 6])
            (cond (cmpI .lss cy (-1000000))
             (Q [.bool false, .int 6])
             (cond (cmpI .lss 1000000 cy)
              (Q [.bool false, .int 6])
              (Q [.bool (ons0 ax ay bx by' cx cy), .int 0]))))))))))))) := by kernel_rfl
theorem t18 (x : Int) (y : Int) (Q : List Sc → Prop) : (fnT (cfgOf Try.prog sigs [38] [41, 51, 53, 52] noLoop) 18 Try.f18 (bodyOf Try.f18) ⟨[(iv 2)], [b1]⟩ 100).holds Φ [.int x, .int y] (resQ Φ Q) =
  (cond (rin0 x)
   (Q [.bool (rin0 y)])
   (Q [.bool false])) := by kernel_rfl
theorem t19 (ax : Int) (ay : Int) (bx : Int) (by' : Int) (cx : Int) (cy : Int) (Q : List Sc → Prop) : (fnT (cfgOf Try.prog sigs [] [41, 51, 53, 52] noLoop) 19 Try.f19 (bodyOf Try.f19) ⟨[(iv 2), (iv 2), (iv 2)], [i1]⟩ 100).holds Φ [.int ax, .int ay, .int bx, .int by', .int cx, .int cy] (resQ Φ Q) =
  (cond (cmpI .lss 0 (arI .sub .i64 (arI .mul .i64 (arI .sub .i64 bx ax) (arI .sub .i64 cy ay)) (arI .mul .i64 (arI .sub .i64 by' ay) (arI .sub .i64 cx ax))))
   (Q [.int 1])
   (cond (cmpI .lss (arI .sub .i64 (arI .mul .i64 (arI .sub .i64 bx ax) (arI .sub .i64 cy ay)) (arI .mul .i64 (arI .sub .i64 by' ay) (arI .sub .i64 cx ax))) 0)
    (Q [.int (-1)])
    (Q [.int 0]))) := by kernel_rfl
theorem t20 (ax : Int) (ay : Int) (bx : Int) (by' : Int) (cx : Int) (cy : Int) (Q : List Sc → Prop) : (fnT (cfgOf Try.prog sigs [19] [41, 51, 53, 52] noLoop) 20 Try.f20 (bodyOf Try.f20) ⟨[(iv 2), (iv 2), (iv 2)], [b1]⟩ 100).holds Φ [.int ax, .int ay, .int bx, .int by', .int cx, .int cy] (resQ Φ Q) =
  (cond (cmpI .eql (rTn0 ax ay bx by' cx cy) 0)
   (cond (cmpI .lss cx (mnI ax bx))
    (Q [.bool false])
    (cond (cmpI .lss (mxI ax bx) cx)
     (Q [.bool false])
     (cond (cmpI .lss cy (mnI ay by'))
      (Q [.bool false])
      (Q [.bool (!(cmpI .lss (mxI ay by') cy))]))))
   (Q [.bool false])) := by kernel_rfl
theorem t21 (ax : Int) (ay : Int) (bx : Int) (by' : Int) (cx : Int) (cy : Int) (dx : Int) (dy : Int) (Q : List Sc → Prop) : (fnT (cfgOf Try.prog sigs [43, 44, 42, 45] [41, 51, 53, 52] noLoop) 21 Try.f21 (bodyOf Try.f21) ⟨[(iv 2), (iv 2), (iv 2), (iv 2)], [i1, i1]⟩ 100).holds Φ [.int ax, .int ay, .int bx, .int by', .int cx, .int cy, .int dx, .int dy] (resQ Φ Q) =
  (cond (cmpI .lss ax (-1000000))
   (Q [.int 0, .int 6])
   (cond (cmpI .lss 1000000 ax)
    (Q [.int 0, .int 6])
    (cond (cmpI .lss ay (-1000000))
     (Q [.int 0, .int 6])
     (cond (cmpI .lss 1000000 ay)
      (Q [.int 0, .int 6])
      (cond (cmpI .lss bx (-1000000))
       (Q [.int 0, .int 6])
       (cond (cmpI .lss 1000000 bx)
        (Q [.int 0, .int 6])
        (cond (cmpI .lss by' (-1000000))
         (Q [.int 0, .int 6])
         (cond (cmpI .lss 1000000 by')
          (Q [.int 0, .int 6])
          (cond (cmpI .lss cx (-1000000))
           (Q [.int 0, .int 6])
           (cond (cmpI .lss 1000000 cx)
            (Q [.int 0, .int 6])
            (cond (cmpI .lss cy (-1000000))
             (Q [.int 0, .int 6])
             (cond (cmpI .lss 1000000 cy)
              (Q [.int 0, .int 6])
              (cond (cmpI .lss dx (-1000000))
               (Q [.int 0, .int 6])
               (cond (cmpI .lss 1000000 dx)
                (Q [.int 0, .int 6])
                (cond (cmpI .lss dy (-1000000))
                 (Q [.int 0, .int 6])
                 (cond (cmpI .lss 1000000 dy)
                  (Q [.int 0, .int 6])
                  (cond ((cmpI .eql ax bx) && (cmpI .eql ay by'))
                   (Q [.int (one0 (ons0 cx cy dx dy ax ay)), .int 0])
                   (cond ((cmpI .eql cx dx) && (cmpI .eql cy dy))
                    (Q [.int (one0 (ons0 ax ay bx by' cx cy)), .int 0])
                    (cond (cmpI .eql (tur0 ax ay bx by' cx cy) 0)
                     (cond (cmpI .eql (tur0 ax ay bx by' dx dy) 0)
                      (cond (cmpI .eql ax bx)
                       (cond (cmnP ay by' cy dy)
                       (Q [.int (cmn0 ay by' cy dy), .int 0])
                       False)
                       (cond (cmnP ax bx cx dx)
                       (Q [.int (cmn0 ax bx cx dx), .int 0])
                       False))
                      (cond (cmpI .lss 0 (arI .mul .i64 (tur0 ax ay bx by' cx cy) (tur0 ax ay bx by' dx dy)))
                       (Q [.int (one0 false), .int 0])
                       (Q [.int (one0 (!(cmpI .lss 0 (arI .mul .i64 (tur0 cx cy dx dy ax ay) (tur0 cx cy dx dy bx by'))))), .int 0])))
                     (cond (cmpI .lss 0 (arI .mul .i64 (tur0 ax ay bx by' cx cy) (tur0 ax ay bx by' dx dy)))
                      (Q [.int (one0 false), .int 0])
                      (Q [.int (one0 (!(cmpI .lss 0 (arI .mul .i64 (tur0 cx cy dx dy ax ay) (tur0 cx cy dx dy bx by'))))), .int 0]))))))))))))))))))))) := by kernel_rfl
theorem t22 (ax : Int) (ay : Int) (bx : Int) (by' : Int) (cx : Int) (cy : Int) (dx : Int) (dy : Int) (Q : List Sc → Prop) : (fnT (cfgOf Try.prog sigs [20, 19, 46, 47] [41, 51, 53, 52] noLoop) 22 Try.f22 (bodyOf Try.f22) ⟨[(iv 2), (iv 2), (iv 2), (iv 2)], [i1]⟩ 100).holds Φ [.int ax, .int ay, .int bx, .int by', .int cx, .int cy, .int dx, .int dy] (resQ Φ Q) =
  (cond ((cmpI .eql ax bx) && (cmpI .eql ay by'))
   (cond (rOn0 cx cy dx dy ax ay)
    (Q [.int 1])
    (cond ((cmpI .eql cx dx) && (cmpI .eql cy dy))
     (cond (rOn0 ax ay bx by' cx cy)
      (Q [.int 1])
      (Q [.int 0]))
     (Q [.int 0])))
   (cond ((cmpI .eql cx dx) && (cmpI .eql cy dy))
    (cond (rOn0 ax ay bx by' cx cy)
     (Q [.int 1])
     (Q [.int 0]))
    (cond (cmpI .eql (rTn0 ax ay bx by' cx cy) 0)
     (cond (cmpI .eql (rTn0 ax ay bx by' dx dy) 0)
      (cond (bef0 (srt0 ax ay bx by') (srt1 ax ay bx by') (srt0 cx cy dx dy) (srt1 cx cy dx dy))
       (cond (bef0 (srt2 cx cy dx dy) (srt3 cx cy dx dy) (srt2 ax ay bx by') (srt3 ax ay bx by'))
        (cond (bef0 (srt0 cx cy dx dy) (srt1 cx cy dx dy) (srt2 cx cy dx dy) (srt3 cx cy dx dy))
         (Q [.int 2])
         (cond ((cmpI .eql (srt0 cx cy dx dy) (srt2 cx cy dx dy)) && (cmpI .eql (srt1 cx cy dx dy) (srt3 cx cy dx dy)))
          (Q [.int 1])
          (Q [.int 0])))
        (cond (bef0 (srt0 cx cy dx dy) (srt1 cx cy dx dy) (srt2 ax ay bx by') (srt3 ax ay bx by'))
         (Q [.int 2])
         (cond ((cmpI .eql (srt0 cx cy dx dy) (srt2 ax ay bx by')) && (cmpI .eql (srt1 cx cy dx dy) (srt3 ax ay bx by')))
          (Q [.int 1])
          (Q [.int 0]))))
       (cond (bef0 (srt2 cx cy dx dy) (srt3 cx cy dx dy) (srt2 ax ay bx by') (srt3 ax ay bx by'))
        (cond (bef0 (srt0 ax ay bx by') (srt1 ax ay bx by') (srt2 cx cy dx dy) (srt3 cx cy dx dy))
         (Q [.int 2])
         (cond ((cmpI .eql (srt0 ax ay bx by') (srt2 cx cy dx dy)) && (cmpI .eql (srt1 ax ay bx by') (srt3 cx cy dx dy)))
          (Q [.int 1])
          (Q [.int 0])))
        (cond (bef0 (srt0 ax ay bx by') (srt1 ax ay bx by') (srt2 ax ay bx by') (srt3 ax ay bx by'))
         (Q [.int 2])
         (cond ((cmpI .eql (srt0 ax ay bx by') (srt2 ax ay bx by')) && (cmpI .eql (srt1 ax ay bx by') (srt3 ax ay bx by')))
          (Q [.int 1])
          (Q [.int 0])))))
      (cond (cmpI .lss 0 (arI .mul .i64 (rTn0 ax ay bx by' cx cy) (rTn0 ax ay bx by' dx dy)))
       (Q [.int 0])
       (cond (cmpI .lss 0 (arI .mul .i64 (rTn0 cx cy dx dy ax ay) (rTn0 cx cy dx dy bx by')))
        (Q [.int 0])
        (Q [.int 1]))))
     (cond (cmpI .lss 0 (arI .mul .i64 (rTn0 ax ay bx by' cx cy) (rTn0 ax ay bx by' dx dy)))
      (Q [.int 0])
      (cond (cmpI .lss 0 (arI .mul .i64 (rTn0 cx cy dx dy ax ay) (rTn0 cx cy dx dy bx by')))
       (Q [.int 0])
       (Q [.int 1])))))) := by kernel_rfl
theorem t23 (ax : Int) (ay : Int) (az : Int) (bx : Int) (by' : Int) (bz : Int) (Q : List Sc → Prop) : (fnT (cfgOf Try.prog sigs [36, 48] [41, 51, 53, 52] noLoop) 23 Try.f23 (bodyOf Try.f23) ⟨[(iv 3), (iv 3)], [i1]⟩ 100).holds Φ [.int ax, .int ay, .int az, .int bx, .int by', .int bz] (resQ Φ Q) =
  (cond ((cmpI .eql ax bx) && ((cmpI .eql ay by') && (cmpI .eql az bz)))
   (Q [.int 0])
   (cond (cmpI .eql (cmpI10 (prt0 ax ay az) (prt0 bx by' bz)) 0)
    (cond (cmpI .eql (cmpI10 (prt1 ax ay az) (prt1 bx by' bz)) 0)
     (cond (cmpI .eql (cmpI10 (prt2 ax ay az) (prt2 bx by' bz)) 0)
      (Q [.int 0])
      (Q [.int (cmpI10 (prt2 ax ay az) (prt2 bx by' bz))]))
     (Q [.int (cmpI10 (prt1 ax ay az) (prt1 bx by' bz))]))
    (Q [.int (cmpI10 (prt0 ax ay az) (prt0 bx by' bz))]))) := by kernel_rfl
theorem t24 (ax : Int) (ay : Int) (az : Int) (bx : Int) (by' : Int) (bz : Int) (Q : List Sc → Prop) : (fnT (cfgOf Try.prog sigs [49, 36] [41, 51, 53, 52] noLoop) 24 Try.f24 (bodyOf Try.f24) ⟨[(iv 3), (iv 3)], [i1, i1]⟩ 100).holds Φ [.int ax, .int ay, .int az, .int bx, .int by', .int bz] (resQ Φ Q) =
  (cond (cmpI .eql (bth0 ax ay az bx by' bz) 0)
   (Q [.int (arI .add .i64 (arI .add .i64 (arI .add .i64 0 (arI .mul .i64 (prt0 ax ay az) (prt0 bx by' bz))) (arI .mul .i64 (prt1 ax ay az) (prt1 bx by' bz))) (arI .mul .i64 (prt2 ax ay az) (prt2 bx by' bz))), .int 0])
   (Q [.int 0, .int (bth0 ax ay az bx by' bz)])) := by kernel_rfl
theorem t25 (ax : Int) (ay : Int) (az : Int) (bx : Int) (by' : Int) (bz : Int) (Q : List Sc → Prop) : (fnT (cfgOf Try.prog sigs [49, 36] [41, 51, 53, 52] noLoop) 25 Try.f25 (bodyOf Try.f25) ⟨[(iv 3), (iv 3)], [(iv 3), i1]⟩ 100).holds Φ [.int ax, .int ay, .int az, .int bx, .int by', .int bz] (resQ Φ Q) =
  (cond (cmpI .eql (bth0 ax ay az bx by' bz) 0)
   (Q [.int (arI .sub .i64 (arI .mul .i64 (prt1 ax ay az) (prt2 bx by' bz)) (arI .mul .i64 (prt2 ax ay az) (prt1 bx by' bz))), .int (arI .sub .i64 (arI .mul .i64 (prt2 ax ay az) (prt0 bx by' bz)) (arI .mul .i64 (prt0 ax ay az) (prt2 bx by' bz))), .int (arI .sub .i64 (arI .mul .i64 (prt0 ax ay az) (prt1 bx by' bz)) (arI .mul .i64 (prt1 ax ay az) (prt0 bx by' bz))), .int 0])
   (Q [.int 0, .int 0, .int 0, .int (bth0 ax ay az bx by' bz)])) := by kernel_rfl
theorem t26 (ax : Int) (ay : Int) (az : Int) (bx : Int) (by' : Int) (bz : Int) (Q : List Sc → Prop) : (fnT (cfgOf Try.prog sigs [49, 36] [41, 51, 53, 52] noLoop) 26 Try.f26 (bodyOf Try.f26) ⟨[(iv 3), (iv 3)], [i1, i1]⟩ 100).holds Φ [.int ax, .int ay, .int az, .int bx, .int by', .int bz] (resQ Φ Q) =
  (cond (cmpI .eql (bth0 ax ay az bx by' bz) 0)
   (Q [.int (arI .add .i64 (arI .add .i64 (arI .add .i64 0 (arI .mul .i64 (arI .sub .i64 (prt0 ax ay az) (prt0 bx by' bz)) (arI .sub .i64 (prt0 ax ay az) (prt0 bx by' bz)))) (arI .mul .i64 (arI .sub .i64 (prt1 ax ay az) (prt1 bx by' bz)) (arI .sub .i64 (prt1 ax ay az) (prt1 bx by' bz)))) (arI .mul .i64 (arI .sub .i64 (prt2 ax ay az) (prt2 bx by' bz)) (arI .sub .i64 (prt2 ax ay az) (prt2 bx by' bz)))), .int 0])
   (Q [.int 0, .int (bth0 ax ay az bx by' bz)])) := by kernel_rfl
theorem t27 (ax : Int) (ay : Int) (az : Int) (bx : Int) (by' : Int) (bz : Int) (Q : List Sc → Prop) : (fnT (cfgOf Try.prog sigs [] [41, 51, 53, 52] noLoop) 27 Try.f27 (bodyOf Try.f27) ⟨[(iv 3), (iv 3)], [(iv 3)]⟩ 100).holds Φ [.int ax, .int ay, .int az, .int bx, .int by', .int bz] (resQ Φ Q) =
  (Q [.int (arI .sub .i64 ax bx), .int (arI .sub .i64 ay by'), .int (arI .sub .i64 az bz)]) := by kernel_rfl
theorem t28 (ax : Int) (ay : Int) (az : Int) (bx : Int) (by' : Int) (bz : Int) (Q : List Sc → Prop) : (fnT (cfgOf Try.prog sigs [] [41, 51, 53, 52] noLoop) 28 Try.f28 (bodyOf Try.f28) ⟨[(iv 3), (iv 3)], [i1]⟩ 100).holds Φ [.int ax, .int ay, .int az, .int bx, .int by', .int bz] (resQ Φ Q) =
  (Q [.int (arI .add .i64 (arI .add .i64 (arI .mul .i64 ax bx) (arI .mul .i64 ay by')) (arI .mul .i64 az bz))]) := by kernel_rfl
theorem t29 (ax : Int) (ay : Int) (az : Int) (bx : Int) (by' : Int) (bz : Int) (Q : List Sc → Prop) : (fnT (cfgOf Try.prog sigs [] [41, 51, 53, 52] noLoop) 29 Try.f29 (bodyOf Try.f29) ⟨[(iv 3), (iv 3)], [(iv 3)]⟩ 100).holds Φ [.int ax, .int ay, .int az, .int bx, .int by', .int bz] (resQ Φ Q) =
  (Q [.int (arI .sub .i64 (arI .mul .i64 ay bz) (arI .mul .i64 az by')), .int (arI .sub .i64 (arI .mul .i64 az bx) (arI .mul .i64 ax bz)), .int (arI .sub .i64 (arI .mul .i64 ax by') (arI .mul .i64 ay bx))]) := by kernel_rfl
theorem t30 (ax : Int) (ay : Int) (az : Int) (bx : Int) (by' : Int) (bz : Int) (Q : List Sc → Prop) : (fnT (cfgOf Try.prog sigs [50] [41, 51, 53, 52] noLoop) 30 Try.f30 (bodyOf Try.f30) ⟨[(iv 3), (iv 3)], [(iv 3), i1]⟩ 100).holds Φ [.int ax, .int ay, .int az, .int bx, .int by', .int bz] (resQ Φ Q) =
  (cond (cmbP ax ay az bx by' bz 1)
  (Q [.int (cmb0 ax ay az bx by' bz 1), .int (cmb1 ax ay az bx by' bz 1), .int (cmb2 ax ay az bx by' bz 1), .int (cmb3 ax ay az bx by' bz 1)])
  False) := by kernel_rfl
theorem t31 (ax : Int) (ay : Int) (az : Int) (bx : Int) (by' : Int) (bz : Int) (Q : List Sc → Prop) : (fnT (cfgOf Try.prog sigs [50] [41, 51, 53, 52] noLoop) 31 Try.f31 (bodyOf Try.f31) ⟨[(iv 3), (iv 3)], [(iv 3), i1]⟩ 100).holds Φ [.int ax, .int ay, .int az, .int bx, .int by', .int bz] (resQ Φ Q) =
  (cond (cmbP ax ay az bx by' bz (-1))
  (Q [.int (cmb0 ax ay az bx by' bz (-1)), .int (cmb1 ax ay az bx by' bz (-1)), .int (cmb2 ax ay az bx by' bz (-1)), .int (cmb3 ax ay az bx by' bz (-1))])
  False) := by kernel_rfl
theorem t32 (x : Int) (y : Int) (z : Int) (Q : List Sc → Prop) : (fnT (cfgOf Try.prog sigs [] [41, 51, 53, 52] noLoop) 32 Try.f32 (bodyOf Try.f32) ⟨[(iv 3)], [i1]⟩ 100).holds Φ [.int x, .int y, .int z] (resQ Φ Q) =
  (cond (cmpI .lss x (-1000000))
   (Q [.int 6])
   (cond (cmpI .lss 1000000 x)
    (Q [.int 6])
    (cond (cmpI .lss y (-1000000))
     (Q [.int 6])
     (cond (cmpI .lss 1000000 y)
      (Q [.int 6])
      (cond (cmpI .lss z (-1000000))
       (Q [.int 6])
       (cond (cmpI .lss 1000000 z)
        (Q [.int 6])
        (Q [.int 0]))))))) := by kernel_rfl
theorem t33 (ax : Int) (ay : Int) (az : Int) (bx : Int) (by' : Int) (bz : Int) (Q : List Sc → Prop) : (fnT (cfgOf Try.prog sigs [] [41, 51, 53, 52] noLoop) 33 Try.f33 (bodyOf Try.f33) ⟨[(iv 3), (iv 3)], [i1]⟩ 100).holds Φ [.int ax, .int ay, .int az, .int bx, .int by', .int bz] (resQ Φ Q) =
  (cond (cmpI .eql ax bx)
   (cond (cmpI .eql ay by')
    (cond (cmpI .lss az bz)
     (Q [.int (-1)])
     (cond (cmpI .eql bx ax)
      (cond (cmpI .eql by' ay)
       (cond (cmpI .lss bz az)
        (Q [.int 1])
        (Q [.int 0]))
       (cond (cmpI .lss by' ay)
        (Q [.int 1])
        (Q [.int 0])))
      (cond (cmpI .lss bx ax)
       (Q [.int 1])
       (Q [.int 0]))))
    (cond (cmpI .lss ay by')
     (Q [.int (-1)])
     (cond (cmpI .eql bx ax)
      (cond (cmpI .eql by' ay)
       (cond (cmpI .lss bz az)
        (Q [.int 1])
        (Q [.int 0]))
       (cond (cmpI .lss by' ay)
        (Q [.int 1])
        (Q [.int 0])))
      (cond (cmpI .lss bx ax)
       (Q [.int 1])
       (Q [.int 0])))))
   (cond (cmpI .lss ax bx)
    (Q [.int (-1)])
    (cond (cmpI .eql bx ax)
     (cond (cmpI .eql by' ay)
      (cond (cmpI .lss bz az)
       (Q [.int 1])
       (Q [.int 0]))
      (cond (cmpI .lss by' ay)
       (Q [.int 1])
       (Q [.int 0])))
     (cond (cmpI .lss bx ax)
      (Q [.int 1])
      (Q [.int 0]))))) := by kernel_rfl
theorem t34 (ax : Int) (ay : Int) (az : Int) (bx : Int) (by' : Int) (bz : Int) (e : Int) (Q : List Sc → Prop) : (fnT (cfgOf Try.prog sigs [14] [41, 51, 53, 52] noLoop) 34 Try.f34 (bodyOf Try.f34) ⟨[(iv 3), (iv 3), i1], [b1]⟩ 100).holds Φ [.int ax, .int ay, .int az, .int bx, .int by', .int bz, .int e] (resQ Φ Q) =
  (cond (rIn0 ax ay az)
   (cond (cmpI .eql e 0)
    (Q [.bool ((cmpI .eql bx ax) && ((cmpI .eql by' ay) && (cmpI .eql bz az)))])
    (Q [.bool false]))
   (cond (cmpI .eql e 6)
    (Q [.bool ((cmpI .eql bx 0) && ((cmpI .eql by' 0) && (cmpI .eql bz 0)))])
    (Q [.bool false]))) := by kernel_rfl
theorem t35 (ax : Int) (ay : Int) (az : Int) (bx : Int) (by' : Int) (bz : Int) (Q : List Sc → Prop) : (fnT (cfgOf Try.prog sigs [] [41, 51, 53, 52] noLoop) 35 Try.f35 (bodyOf Try.f35) ⟨[(iv 3), (iv 3)], [(iv 3)]⟩ 100).holds Φ [.int ax, .int ay, .int az, .int bx, .int by', .int bz] (resQ Φ Q) =
  (Q [.int (arI .add .i64 ax bx), .int (arI .add .i64 ay by'), .int (arI .add .i64 az bz)]) := by kernel_rfl
theorem t36 (x : Int) (y : Int) (z : Int) (Q : List Sc → Prop) : (fnT (cfgOf Try.prog sigs [] [41, 51, 53, 52] noLoop) 36 Try.f36 (bodyOf Try.f36) ⟨[(iv 3)], [(iv 3)]⟩ 100).holds Φ [.int x, .int y, .int z] (resQ Φ Q) =
  (Q [.int x, .int y, .int z]) := by kernel_rfl
theorem t37 (x : Int) (y : Int) (z : Int) (Q : List Sc → Prop) : (fnT (cfgOf Try.prog sigs [] [41, 51, 53, 52] noLoop) 37 Try.f37 (bodyOf Try.f37) ⟨[(iv 3)], [(iv 3)]⟩ 100).holds Φ [.int x, .int y, .int z] (resQ Φ Q) =
  (Q [.int x, .int y, .int z]) := by kernel_rfl
theorem t38 (n : Int) (Q : List Sc → Prop) : (fnT (cfgOf Try.prog sigs [] [41, 51, 53, 52] noLoop) 38 Try.f38 (bodyOf Try.f38) ⟨[i1], [b1]⟩ 100).holds Φ [.int n] (resQ Φ Q) =
  (cond (cmpI .lss n (-1000000))
   (Q [.bool false])
   (Q [.bool (!(cmpI .lss 1000000 n))])) := by kernel_rfl
theorem t40 (n : Int) (Q : List Sc → Prop) : (fnT (cfgOf Try.prog sigs [] [41, 51, 53, 52] noLoop) 40 Try.f40 (bodyOf Try.f40) ⟨[i1], [i1]⟩ 100).holds Φ [.int n] (resQ Φ Q) =
  (cond (cmpI .lss n 0)
   (Q [.int (arI .sub .i64 0 n)])
   (Q [.int n])) := by kernel_rfl
theorem t42 (ax : Int) (ay : Int) (bx : Int) (by' : Int) (cx : Int) (cy : Int) (Q : List Sc → Prop) : (fnT (cfgOf Try.prog sigs [48] [41, 51, 53, 52] noLoop) 42 Try.f42 (bodyOf Try.f42) ⟨[(iv 2), (iv 2), (iv 2)], [i1]⟩ 100).holds Φ [.int ax, .int ay, .int bx, .int by', .int cx, .int cy] (resQ Φ Q) =
  (Q [.int (cmpI10 (arI .sub .i64 (arI .mul .i64 (arI .sub .i64 bx ax) (arI .sub .i64 cy ay)) (arI .mul .i64 (arI .sub .i64 by' ay) (arI .sub .i64 cx ax))) 0)]) := by kernel_rfl
theorem t43 (ax : Int) (ay : Int) (bx : Int) (by' : Int) (cx : Int) (cy : Int) (Q : List Sc → Prop) : (fnT (cfgOf Try.prog sigs [42] [41, 51, 53, 52] noLoop) 43 Try.f43 (bodyOf Try.f43) ⟨[(iv 2), (iv 2), (iv 2)], [b1]⟩ 100).holds Φ [.int ax, .int ay, .int bx, .int by', .int cx, .int cy] (resQ Φ Q) =
  (cond (cmpI .eql (tur0 ax ay bx by' cx cy) 0)
   (cond (cmpI .lss cx (mnI ax bx))
    (Q [.bool false])
    (cond (cmpI .lss (mxI ax bx) cx)
     (Q [.bool false])
     (cond (cmpI .lss cy (mnI ay by'))
      (Q [.bool false])
      (Q [.bool (!(cmpI .lss (mxI ay by') cy))]))))
   (Q [.bool false])) := by kernel_rfl
theorem t44 (b : Bool) (Q : List Sc → Prop) : (fnT (cfgOf Try.prog sigs [] [41, 51, 53, 52] noLoop) 44 Try.f44 (bodyOf Try.f44) ⟨[b1], [i1]⟩ 100).holds Φ [.bool b] (resQ Φ Q) =
  (cond b
   (Q [.int 1])
   (Q [.int 0])) := by kernel_rfl
theorem t45 (a : Int) (b : Int) (c : Int) (d : Int) (Q : List Sc → Prop) : (fnT (cfgOf Try.prog sigs [] [41, 51, 53, 52] noLoop) 45 Try.f45 (bodyOf Try.f45) ⟨[i1, i1, i1, i1], [i1]⟩ 100).holds Φ [.int a, .int b, .int c, .int d] (resQ Φ Q) =
  (Q [.int (mxI 0 (mnI 2 (arI .add .i64 (arI .sub .i64 (mnI (mxI a b) (mxI c d)) (mxI (mnI a b) (mnI c d))) 1)))]) := by kernel_rfl
theorem t46 (ax : Int) (ay : Int) (bx : Int) (by' : Int) (Q : List Sc → Prop) : (fnT (cfgOf Try.prog sigs [47] [41, 51, 53, 52] noLoop) 46 Try.f46 (bodyOf Try.f46) ⟨[(iv 2), (iv 2)], [(iv 2), (iv 2)]⟩ 100).holds Φ [.int ax, .int ay, .int bx, .int by'] (resQ Φ Q) =
  (cond (bef0 bx by' ax ay)
   (Q [.int bx, .int by', .int ax, .int ay])
   (Q [.int ax, .int ay, .int bx, .int by'])) := by kernel_rfl
theorem t47 (ax : Int) (ay : Int) (bx : Int) (by' : Int) (Q : List Sc → Prop) : (fnT (cfgOf Try.prog sigs [] [41, 51, 53, 52] noLoop) 47 Try.f47 (bodyOf Try.f47) ⟨[(iv 2), (iv 2)], [b1]⟩ 100).holds Φ [.int ax, .int ay, .int bx, .int by'] (resQ Φ Q) =
  (cond (cmpI .lss ax bx)
   (Q [.bool true])
   (cond (cmpI .eql ax bx)
    (Q [.bool (cmpI .lss ay by')])
    (Q [.bool false]))) := by kernel_rfl
theorem t48 (a : Int) (b : Int) (Q : List Sc → Prop) : (fnT (cfgOf Try.prog sigs [] [41, 51, 53, 52] noLoop) 48 Try.f48 (bodyOf Try.f48) ⟨[i1, i1], [i1]⟩ 100).holds Φ [.int a, .int b] (resQ Φ Q) =
  (cond (cmpI .eql a a)
   (cond (cmpI .eql b b)
    (cond (cmpI .lss a b)
     (Q [.int (-1)])
     (cond (cmpI .lss b a)
      (Q [.int 1])
      (Q [.int 0])))
    (Q [.int 1]))
   (cond (cmpI .eql b b)
    (Q [.int (-1)])
    (Q [.int 0]))) := by kernel_rfl
theorem t49 (ax : Int) (ay : Int) (az : Int) (bx : Int) (by' : Int) (bz : Int) (Q : List Sc → Prop) : (fnT (cfgOf Try.prog sigs [32] [41, 51, 53, 52] noLoop) 49 Try.f49 (bodyOf Try.f49) ⟨[(iv 3), (iv 3)], [i1]⟩ 100).holds Φ [.int ax, .int ay, .int az, .int bx, .int by', .int bz] (resQ Φ Q) =
  (cond (cmpI .eql (chk0 ax ay az) 0)
   (Q [.int (chk0 bx by' bz)])
   (Q [.int (chk0 ax ay az)])) := by kernel_rfl
theorem t50 (ax : Int) (ay : Int) (az : Int) (bx : Int) (by' : Int) (bz : Int) (s : Int) (Q : List Sc → Prop) : (fnT (cfgOf Try.prog sigs [49, 36, 37, 32] [41, 51, 53, 52] noLoop) 50 Try.f50 (bodyOf Try.f50) ⟨[(iv 3), (iv 3), i1], [(iv 3), i1]⟩ 100).holds Φ [.int ax, .int ay, .int az, .int bx, .int by', .int bz, .int s] (resQ Φ Q) =
  (cond (cmpI .eql (bth0 ax ay az bx by' bz) 0)
   (cond (cmpI .eql (chk0 (whl0 (arI .add .i64 (prt0 ax ay az) (arI .mul .i64 s (prt0 bx by' bz))) (arI .add .i64 (prt1 ax ay az) (arI .mul .i64 s (prt1 bx by' bz))) (arI .add .i64 (prt2 ax ay az) (arI .mul .i64 s (prt2 bx by' bz)))) (whl1 (arI .add .i64 (prt0 ax ay az) (arI .mul .i64 s (prt0 bx by' bz))) (arI .add .i64 (prt1 ax ay az) (arI .mul .i64 s (prt1 bx by' bz))) (arI .add .i64 (prt2 ax ay az) (arI .mul .i64 s (prt2 bx by' bz)))) (whl2 (arI .add .i64 (prt0 ax ay az) (arI .mul .i64 s (prt0 bx by' bz))) (arI .add .i64 (prt1 ax ay az) (arI .mul .i64 s (prt1 bx by' bz))) (arI .add .i64 (prt2 ax ay az) (arI .mul .i64 s (prt2 bx by' bz))))) 0)
    (Q [.int (whl0 (arI .add .i64 (prt0 ax ay az) (arI .mul .i64 s (prt0 bx by' bz))) (arI .add .i64 (prt1 ax ay az) (arI .mul .i64 s (prt1 bx by' bz))) (arI .add .i64 (prt2 ax ay az) (arI .mul .i64 s (prt2 bx by' bz)))), .int (whl1 (arI .add .i64 (prt0 ax ay az) (arI .mul .i64 s (prt0 bx by' bz))) (arI .add .i64 (prt1 ax ay az) (arI .mul .i64 s (prt1 bx by' bz))) (arI .add .i64 (prt2 ax ay az) (arI .mul .i64 s (prt2 bx by' bz)))), .int (whl2 (arI .add .i64 (prt0 ax ay az) (arI .mul .i64 s (prt0 bx by' bz))) (arI .add .i64 (prt1 ax ay az) (arI .mul .i64 s (prt1 bx by' bz))) (arI .add .i64 (prt2 ax ay az) (arI .mul .i64 s (prt2 bx by' bz)))), .int 0])
    (Q [.int 0, .int 0, .int 0, .int (chk0 (whl0 (arI .add .i64 (prt0 ax ay az) (arI .mul .i64 s (prt0 bx by' bz))) (arI .add .i64 (prt1 ax ay az) (arI .mul .i64 s (prt1 bx by' bz))) (arI .add .i64 (prt2 ax ay az) (arI .mul .i64 s (prt2 bx by' bz)))) (whl1 (arI .add .i64 (prt0 ax ay az) (arI .mul .i64 s (prt0 bx by' bz))) (arI .add .i64 (prt1 ax ay az) (arI .mul .i64 s (prt1 bx by' bz))) (arI .add .i64 (prt2 ax ay az) (arI .mul .i64 s (prt2 bx by' bz)))) (whl2 (arI .add .i64 (prt0 ax ay az) (arI .mul .i64 s (prt0 bx by' bz))) (arI .add .i64 (prt1 ax ay az) (arI .mul .i64 s (prt1 bx by' bz))) (arI .add .i64 (prt2 ax ay az) (arI .mul .i64 s (prt2 bx by' bz)))))]))
   (Q [.int 0, .int 0, .int 0, .int (bth0 ax ay az bx by' bz)])) := by kernel_rfl
theorem t52 (ax : Int) (ay : Int) (az : Int) (bx : Int) (by' : Int) (bz : Int) (Q : List Sc → Prop) : (fnT (cfgOf Try.prog sigs [] [41, 51, 53, 52] noLoop) 52 Try.f52 (bodyOf Try.f52) ⟨[(iv 3), (iv 3)], [b1]⟩ 100).holds Φ [.int ax, .int ay, .int az, .int bx, .int by', .int bz] (resQ Φ Q) =
  (cond (cmpI .eql ax bx)
   (cond (cmpI .eql ay by')
    (Q [.bool (cmpI .lss az bz)])
    (Q [.bool (cmpI .lss ay by')]))
   (Q [.bool (cmpI .lss ax bx)])) := by kernel_rfl
end Go.Proofs.Ytoffcodhcbgbdaa
