/- The fraction seat: the tree of each function. -/
import Derived.Test.YtkmffnjmiechfaaDoorFF0
namespace Go.Proofs.YtkmffnjmiechfaaDoor
open Go.Sx
set_option linter.unusedVariables false
set_option linter.unusedSimpArgs false
set_option maxRecDepth 100000

theorem t11 (an : Int) (ad : Int) (bn : Int) (bd : Int) (Q : List Sc → Prop) : (fnT (cfgOf Tryd.prog sigs [23, 40] [39, 74, 83, 84] noLoop) 11 Tryd.f11 (bodyOf Tryd.f11) ⟨[(iv 2), (iv 2)], [(iv 2), i1], none, none, none⟩ 100).holds Φ [.int an, .int ad, .int bn, .int bd] (resQ Φ Q) =
  (cond (Val0 an ad)
   (cond (Val0 bn bd)
    (cond (addP an ad bn bd)
    (Q [.int (add0 an ad bn bd), .int (add1 an ad bn bd), .int (add2 an ad bn bd)])
    False)
    (Q [.int 0, .int 0, .int 1]))
   (Q [.int 0, .int 0, .int 1])) := by kernel_rfl
theorem t12 (an : Int) (ad : Int) (bn : Int) (bd : Int) (Q : List Sc → Prop) : (fnT (cfgOf Tryd.prog sigs [23, 40] [39, 74, 83, 84] noLoop) 12 Tryd.f12 (bodyOf Tryd.f12) ⟨[(iv 2), (iv 2)], [(iv 2), i1], none, none, none⟩ 100).holds Φ [.int an, .int ad, .int bn, .int bd] (resQ Φ Q) =
  (cond (Val0 an ad)
   (cond (Val0 bn bd)
    (cond (addP an ad (arI .sub .i64 0 bn) bd)
    (Q [.int (add0 an ad (arI .sub .i64 0 bn) bd), .int (add1 an ad (arI .sub .i64 0 bn) bd), .int (add2 an ad (arI .sub .i64 0 bn) bd)])
    False)
    (Q [.int 0, .int 0, .int 1]))
   (Q [.int 0, .int 0, .int 1])) := by kernel_rfl
theorem t13 (an : Int) (ad : Int) (bn : Int) (bd : Int) (Q : List Sc → Prop) : (fnT (cfgOf Tryd.prog sigs [23, 41] [39, 74, 83, 84] noLoop) 13 Tryd.f13 (bodyOf Tryd.f13) ⟨[(iv 2), (iv 2)], [(iv 2), i1], none, none, none⟩ 100).holds Φ [.int an, .int ad, .int bn, .int bd] (resQ Φ Q) =
  (cond (Val0 an ad)
   (cond (Val0 bn bd)
    (cond (mulP an ad bn bd)
    (Q [.int (mul0 an ad bn bd), .int (mul1 an ad bn bd), .int (mul2 an ad bn bd)])
    False)
    (Q [.int 0, .int 0, .int 1]))
   (Q [.int 0, .int 0, .int 1])) := by kernel_rfl
theorem t14 (an : Int) (ad : Int) (bn : Int) (bd : Int) (Q : List Sc → Prop) : (fnT (cfgOf Tryd.prog sigs [23, 41] [39, 74, 83, 84] noLoop) 14 Tryd.f14 (bodyOf Tryd.f14) ⟨[(iv 2), (iv 2)], [(iv 2), i1], none, none, none⟩ 100).holds Φ [.int an, .int ad, .int bn, .int bd] (resQ Φ Q) =
  (cond (Val0 an ad)
   (cond (Val0 bn bd)
    (cond (cmpI .eql bn 0)
     (Q [.int 0, .int 0, .int 1])
     (cond (cmpI .lss bn 0)
      (cond (mulP an ad (arI .sub .i64 0 bd) (arI .sub .i64 0 bn))
      (Q [.int (mul0 an ad (arI .sub .i64 0 bd) (arI .sub .i64 0 bn)), .int (mul1 an ad (arI .sub .i64 0 bd) (arI .sub .i64 0 bn)), .int (mul2 an ad (arI .sub .i64 0 bd) (arI .sub .i64 0 bn))])
      False)
      (cond (mulP an ad bd bn)
      (Q [.int (mul0 an ad bd bn), .int (mul1 an ad bd bn), .int (mul2 an ad bd bn)])
      False)))
    (Q [.int 0, .int 0, .int 1]))
   (Q [.int 0, .int 0, .int 1])) := by kernel_rfl
theorem t15 (an : Int) (ad : Int) (bn : Int) (bd : Int) (Q : List Sc → Prop) : (fnT (cfgOf Tryd.prog sigs [24] [39, 74, 83, 84] noLoop) 15 Tryd.f15 (bodyOf Tryd.f15) ⟨[(iv 2), (iv 2)], [sb], none, none, none⟩ 100).holds Φ [.int an, .int ad, .int bn, .int bd] (resQ Φ Q) =
  (cond (rVal0 an ad)
   (Q [.bool (rVal0 bn bd)])
   (Q [.bool false])) := by kernel_rfl
theorem t17 (an : Int) (ad : Int) (bn : Int) (bd : Int) (Q : List Sc → Prop) : (fnT (cfgOf Tryd.prog sigs [45, 44, 43] [39, 74, 83, 84] noLoop) 17 Tryd.f17 (bodyOf Tryd.f17) ⟨[(iv 2), (iv 2)], [(iv 2), i1], none, none, none⟩ 100).holds Φ [.int an, .int ad, .int bn, .int bd] (resQ Φ Q) =
  (cond (timP an bd)
  (cond (timP bn ad)
  (cond (pluP (tim0 an bd) (tim1 an bd) (tim2 an bd) (tim0 bn ad) (tim1 bn ad) (tim2 bn ad))
  (cond (timP ad bd)
  (cond (lowP (plu0 (tim0 an bd) (tim1 an bd) (tim2 an bd) (tim0 bn ad) (tim1 bn ad) (tim2 bn ad)) (plu1 (tim0 an bd) (tim1 an bd) (tim2 an bd) (tim0 bn ad) (tim1 bn ad) (tim2 bn ad)) (plu2 (tim0 an bd) (tim1 an bd) (tim2 an bd) (tim0 bn ad) (tim1 bn ad) (tim2 bn ad)) (tim0 ad bd) (tim1 ad bd) (tim2 ad bd))
  (Q [.int (low0 (plu0 (tim0 an bd) (tim1 an bd) (tim2 an bd) (tim0 bn ad) (tim1 bn ad) (tim2 bn ad)) (plu1 (tim0 an bd) (tim1 an bd) (tim2 an bd) (tim0 bn ad) (tim1 bn ad) (tim2 bn ad)) (plu2 (tim0 an bd) (tim1 an bd) (tim2 an bd) (tim0 bn ad) (tim1 bn ad) (tim2 bn ad)) (tim0 ad bd) (tim1 ad bd) (tim2 ad bd)), .int (low1 (plu0 (tim0 an bd) (tim1 an bd) (tim2 an bd) (tim0 bn ad) (tim1 bn ad) (tim2 bn ad)) (plu1 (tim0 an bd) (tim1 an bd) (tim2 an bd) (tim0 bn ad) (tim1 bn ad) (tim2 bn ad)) (plu2 (tim0 an bd) (tim1 an bd) (tim2 an bd) (tim0 bn ad) (tim1 bn ad) (tim2 bn ad)) (tim0 ad bd) (tim1 ad bd) (tim2 ad bd)), .int (low2 (plu0 (tim0 an bd) (tim1 an bd) (tim2 an bd) (tim0 bn ad) (tim1 bn ad) (tim2 bn ad)) (plu1 (tim0 an bd) (tim1 an bd) (tim2 an bd) (tim0 bn ad) (tim1 bn ad) (tim2 bn ad)) (plu2 (tim0 an bd) (tim1 an bd) (tim2 an bd) (tim0 bn ad) (tim1 bn ad) (tim2 bn ad)) (tim0 ad bd) (tim1 ad bd) (tim2 ad bd))])
  False)
  False)
  False)
  False)
  False) := by kernel_rfl
theorem t18 (an : Int) (ad : Int) (bn : Int) (bd : Int) (Q : List Sc → Prop) : (fnT (cfgOf Tryd.prog sigs [45, 46, 44, 43] [39, 74, 83, 84] noLoop) 18 Tryd.f18 (bodyOf Tryd.f18) ⟨[(iv 2), (iv 2)], [(iv 2), i1], none, none, none⟩ 100).holds Φ [.int an, .int ad, .int bn, .int bd] (resQ Φ Q) =
  (cond (timP an bd)
  (cond (timP bn ad)
  (cond (pluP (tim0 an bd) (tim1 an bd) (tim2 an bd) (mns0 (tim0 bn ad) (tim1 bn ad) (tim2 bn ad)) (mns1 (tim0 bn ad) (tim1 bn ad) (tim2 bn ad)) (mns2 (tim0 bn ad) (tim1 bn ad) (tim2 bn ad)))
  (cond (timP ad bd)
  (cond (lowP (plu0 (tim0 an bd) (tim1 an bd) (tim2 an bd) (mns0 (tim0 bn ad) (tim1 bn ad) (tim2 bn ad)) (mns1 (tim0 bn ad) (tim1 bn ad) (tim2 bn ad)) (mns2 (tim0 bn ad) (tim1 bn ad) (tim2 bn ad))) (plu1 (tim0 an bd) (tim1 an bd) (tim2 an bd) (mns0 (tim0 bn ad) (tim1 bn ad) (tim2 bn ad)) (mns1 (tim0 bn ad) (tim1 bn ad) (tim2 bn ad)) (mns2 (tim0 bn ad) (tim1 bn ad) (tim2 bn ad))) (plu2 (tim0 an bd) (tim1 an bd) (tim2 an bd) (mns0 (tim0 bn ad) (tim1 bn ad) (tim2 bn ad)) (mns1 (tim0 bn ad) (tim1 bn ad) (tim2 bn ad)) (mns2 (tim0 bn ad) (tim1 bn ad) (tim2 bn ad))) (tim0 ad bd) (tim1 ad bd) (tim2 ad bd))
  (Q [.int (low0 (plu0 (tim0 an bd) (tim1 an bd) (tim2 an bd) (mns0 (tim0 bn ad) (tim1 bn ad) (tim2 bn ad)) (mns1 (tim0 bn ad) (tim1 bn ad) (tim2 bn ad)) (mns2 (tim0 bn ad) (tim1 bn ad) (tim2 bn ad))) (plu1 (tim0 an bd) (tim1 an bd) (tim2 an bd) (mns0 (tim0 bn ad) (tim1 bn ad) (tim2 bn ad)) (mns1 (tim0 bn ad) (tim1 bn ad) (tim2 bn ad)) (mns2 (tim0 bn ad) (tim1 bn ad) (tim2 bn ad))) (plu2 (tim0 an bd) (tim1 an bd) (tim2 an bd) (mns0 (tim0 bn ad) (tim1 bn ad) (tim2 bn ad)) (mns1 (tim0 bn ad) (tim1 bn ad) (tim2 bn ad)) (mns2 (tim0 bn ad) (tim1 bn ad) (tim2 bn ad))) (tim0 ad bd) (tim1 ad bd) (tim2 ad bd)), .int (low1 (plu0 (tim0 an bd) (tim1 an bd) (tim2 an bd) (mns0 (tim0 bn ad) (tim1 bn ad) (tim2 bn ad)) (mns1 (tim0 bn ad) (tim1 bn ad) (tim2 bn ad)) (mns2 (tim0 bn ad) (tim1 bn ad) (tim2 bn ad))) (plu1 (tim0 an bd) (tim1 an bd) (tim2 an bd) (mns0 (tim0 bn ad) (tim1 bn ad) (tim2 bn ad)) (mns1 (tim0 bn ad) (tim1 bn ad) (tim2 bn ad)) (mns2 (tim0 bn ad) (tim1 bn ad) (tim2 bn ad))) (plu2 (tim0 an bd) (tim1 an bd) (tim2 an bd) (mns0 (tim0 bn ad) (tim1 bn ad) (tim2 bn ad)) (mns1 (tim0 bn ad) (tim1 bn ad) (tim2 bn ad)) (mns2 (tim0 bn ad) (tim1 bn ad) (tim2 bn ad))) (tim0 ad bd) (tim1 ad bd) (tim2 ad bd)), .int (low2 (plu0 (tim0 an bd) (tim1 an bd) (tim2 an bd) (mns0 (tim0 bn ad) (tim1 bn ad) (tim2 bn ad)) (mns1 (tim0 bn ad) (tim1 bn ad) (tim2 bn ad)) (mns2 (tim0 bn ad) (tim1 bn ad) (tim2 bn ad))) (plu1 (tim0 an bd) (tim1 an bd) (tim2 an bd) (mns0 (tim0 bn ad) (tim1 bn ad) (tim2 bn ad)) (mns1 (tim0 bn ad) (tim1 bn ad) (tim2 bn ad)) (mns2 (tim0 bn ad) (tim1 bn ad) (tim2 bn ad))) (plu2 (tim0 an bd) (tim1 an bd) (tim2 an bd) (mns0 (tim0 bn ad) (tim1 bn ad) (tim2 bn ad)) (mns1 (tim0 bn ad) (tim1 bn ad) (tim2 bn ad)) (mns2 (tim0 bn ad) (tim1 bn ad) (tim2 bn ad))) (tim0 ad bd) (tim1 ad bd) (tim2 ad bd))])
  False)
  False)
  False)
  False)
  False) := by kernel_rfl
theorem t19 (an : Int) (ad : Int) (bn : Int) (bd : Int) (Q : List Sc → Prop) : (fnT (cfgOf Tryd.prog sigs [45, 43] [39, 74, 83, 84] noLoop) 19 Tryd.f19 (bodyOf Tryd.f19) ⟨[(iv 2), (iv 2)], [(iv 2), i1], none, none, none⟩ 100).holds Φ [.int an, .int ad, .int bn, .int bd] (resQ Φ Q) =
  (cond (timP an bn)
  (cond (timP ad bd)
  (cond (lowP (tim0 an bn) (tim1 an bn) (tim2 an bn) (tim0 ad bd) (tim1 ad bd) (tim2 ad bd))
  (Q [.int (low0 (tim0 an bn) (tim1 an bn) (tim2 an bn) (tim0 ad bd) (tim1 ad bd) (tim2 ad bd)), .int (low1 (tim0 an bn) (tim1 an bn) (tim2 an bn) (tim0 ad bd) (tim1 ad bd) (tim2 ad bd)), .int (low2 (tim0 an bn) (tim1 an bn) (tim2 an bn) (tim0 ad bd) (tim1 ad bd) (tim2 ad bd))])
  False)
  False)
  False) := by kernel_rfl
theorem t20 (an : Int) (ad : Int) (bn : Int) (bd : Int) (Q : List Sc → Prop) : (fnT (cfgOf Tryd.prog sigs [45, 43] [39, 74, 83, 84] noLoop) 20 Tryd.f20 (bodyOf Tryd.f20) ⟨[(iv 2), (iv 2)], [(iv 2), i1], none, none, none⟩ 100).holds Φ [.int an, .int ad, .int bn, .int bd] (resQ Φ Q) =
  (cond (timP an bd)
  (cond (timP ad bn)
  (cond (lowP (tim0 an bd) (tim1 an bd) (!((tim2 an bd) == (tim2 ad bn))) (tim0 ad bn) (tim1 ad bn) false)
  (Q [.int (low0 (tim0 an bd) (tim1 an bd) (!((tim2 an bd) == (tim2 ad bn))) (tim0 ad bn) (tim1 ad bn) false), .int (low1 (tim0 an bd) (tim1 an bd) (!((tim2 an bd) == (tim2 ad bn))) (tim0 ad bn) (tim1 ad bn) false), .int (low2 (tim0 an bd) (tim1 an bd) (!((tim2 an bd) == (tim2 ad bn))) (tim0 ad bn) (tim1 ad bn) false)])
  False)
  False)
  False) := by kernel_rfl
theorem t21 (num : Int) (den : Int) (Q : List Sc → Prop) : (fnT (cfgOf Tryd.prog sigs [47, 48, 49] [39, 74, 83, 84] noLoop) 21 Tryd.f21 (bodyOf Tryd.f21) ⟨[i1, i1], [(iv 2), i1], none, none, none⟩ 100).holds Φ [.int num, .int den] (resQ Φ Q) =
  (cond (cmpI .eql den 0)
   (Q [.int 0, .int 0, .int 1])
   (cond (sizP num)
   (cond (sizP den)
   (cond (gcdP (siz0 num) (siz0 den))
   (cond (!(cmpI .eql (gcd0 (siz0 num) (siz0 den)) 0))
   (cond (!(cmpI .eql (gcd0 (siz0 num) (siz0 den)) 0))
   (cond (makP (!((cmpI .lss num 0) == (cmpI .lss den 0))) (arI .quo .u64 (siz0 num) (gcd0 (siz0 num) (siz0 den))) (arI .quo .u64 (siz0 den) (gcd0 (siz0 num) (siz0 den))))
   (Q [.int (mak0 (!((cmpI .lss num 0) == (cmpI .lss den 0))) (arI .quo .u64 (siz0 num) (gcd0 (siz0 num) (siz0 den))) (arI .quo .u64 (siz0 den) (gcd0 (siz0 num) (siz0 den)))), .int (mak1 (!((cmpI .lss num 0) == (cmpI .lss den 0))) (arI .quo .u64 (siz0 num) (gcd0 (siz0 num) (siz0 den))) (arI .quo .u64 (siz0 den) (gcd0 (siz0 num) (siz0 den)))), .int (mak2 (!((cmpI .lss num 0) == (cmpI .lss den 0))) (arI .quo .u64 (siz0 num) (gcd0 (siz0 num) (siz0 den))) (arI .quo .u64 (siz0 den) (gcd0 (siz0 num) (siz0 den))))])
   False)
   False)
   False)
   False)
   False)
   False)) := by kernel_rfl
theorem t22 (num : Int) (den : Int) (Q : List Sc → Prop) : (fnT (cfgOf Tryd.prog sigs [50, 43] [39, 74, 83, 84] noLoop) 22 Tryd.f22 (bodyOf Tryd.f22) ⟨[i1, i1], [(iv 2), i1], none, none, none⟩ 100).holds Φ [.int num, .int den] (resQ Φ Q) =
  (cond (cmpI .eql den 0)
   (Q [.int 0, .int 0, .int 1])
   (cond (oneP num)
   (cond (oneP den)
   (cond (lowP (one0 num) (one1 num) (!((one2 num) == (one2 den))) (one0 den) (one1 den) false)
   (Q [.int (low0 (one0 num) (one1 num) (!((one2 num) == (one2 den))) (one0 den) (one1 den) false), .int (low1 (one0 num) (one1 num) (!((one2 num) == (one2 den))) (one0 den) (one1 den) false), .int (low2 (one0 num) (one1 num) (!((one2 num) == (one2 den))) (one0 den) (one1 den) false)])
   False)
   False)
   False)) := by kernel_rfl
theorem t23 (n : Int) (d : Int) (Q : List Sc → Prop) : (fnT (cfgOf Tryd.prog sigs [47, 48] [39, 74, 83, 84] noLoop) 23 Tryd.f23 (bodyOf Tryd.f23) ⟨[(iv 2)], [sb], none, none, none⟩ 100).holds Φ [.int n, .int d] (resQ Φ Q) =
  (cond (cmpI .lss d 1)
   (Q [.bool false])
   (cond (cmpI .lss d 1000000000000000000)
    (cond (cmpI .lss (-1000000000000000000) n)
     (cond (cmpI .lss n 1000000000000000000)
      (cond (sizP n)
      (cond (gcdP (siz0 n) (IntKind.wrap .u64 d))
      (Q [.bool (cmpI .eql (gcd0 (siz0 n) (IntKind.wrap .u64 d)) 1)])
      False)
      False)
      (Q [.bool false]))
     (Q [.bool false]))
    (Q [.bool false]))) := by kernel_rfl
theorem t24 (n : Int) (d : Int) (Q : List Sc → Prop) : (fnT (cfgOf Tryd.prog sigs [52, 51] [39, 74, 83, 84] noLoop) 24 Tryd.f24 (bodyOf Tryd.f24) ⟨[(iv 2)], [sb], none, none, none⟩ 100).holds Φ [.int n, .int d] (resQ Φ Q) =
  (cond (cmpI .lss d 1)
   (Q [.bool false])
   (cond (cmpI .lss d 1000000000000000000)
    (cond (cmpI .lss (-1000000000000000000) n)
     (cond (cmpI .lss n 1000000000000000000)
      (cond (rsizP n)
      (cond (rgcdP (rsiz0 n) (IntKind.wrap .u64 d))
      (Q [.bool (cmpI .eql (rgcd0 (rsiz0 n) (IntKind.wrap .u64 d)) 1)])
      False)
      False)
      (Q [.bool false]))
     (Q [.bool false]))
    (Q [.bool false]))) := by kernel_rfl
theorem t27 (an : Int) (ad : Int) (bn : Int) (bd : Int) (Q : List Sc → Prop) : (fnT (cfgOf Tryd.prog sigs [23, 53, 54, 55, 56] [39, 74, 83, 84] noLoop) 27 Tryd.f27 (bodyOf Tryd.f27) ⟨[(iv 2), (iv 2)], [i1], none, none, none⟩ 100).holds Φ [.int an, .int ad, .int bn, .int bd] (resQ Φ Q) =
  (cond (Val0 an ad)
   (cond (Val0 bn bd)
    (cond (proP an bd)
    (cond (proP bn ad)
    (cond (cmpI .eql (sgn0 an ad) (sgn0 bn bd))
     (cond (cmpI .lss (sgn0 an ad) 0)
      (cond (cmwP (pro0 bn ad) (pro1 bn ad) (pro2 bn ad) (pro0 an bd) (pro1 an bd) (pro2 an bd))
      (Q [.int (cmw0 (pro0 bn ad) (pro1 bn ad) (pro2 bn ad) (pro0 an bd) (pro1 an bd) (pro2 an bd))])
      False)
      (cond (cmwP (pro0 an bd) (pro1 an bd) (pro2 an bd) (pro0 bn ad) (pro1 bn ad) (pro2 bn ad))
      (Q [.int (cmw0 (pro0 an bd) (pro1 an bd) (pro2 an bd) (pro0 bn ad) (pro1 bn ad) (pro2 bn ad))])
      False))
     (Q [.int (ci0 (sgn0 an ad) (sgn0 bn bd))]))
    False)
    False)
    (Q [.int 0]))
   (Q [.int 0])) := by kernel_rfl
theorem t28 (an : Int) (ad : Int) (bn : Int) (bd : Int) (Q : List Sc → Prop) : (fnT (cfgOf Tryd.prog sigs [45, 46, 44, 57] [39, 74, 83, 84] noLoop) 28 Tryd.f28 (bodyOf Tryd.f28) ⟨[(iv 2), (iv 2)], [i1], none, none, none⟩ 100).holds Φ [.int an, .int ad, .int bn, .int bd] (resQ Φ Q) =
  (cond (timP an bd)
  (cond (timP bn ad)
  (cond (pluP (tim0 an bd) (tim1 an bd) (tim2 an bd) (mns0 (tim0 bn ad) (tim1 bn ad) (tim2 bn ad)) (mns1 (tim0 bn ad) (tim1 bn ad) (tim2 bn ad)) (mns2 (tim0 bn ad) (tim1 bn ad) (tim2 bn ad)))
  (cond (zer0 (plu0 (tim0 an bd) (tim1 an bd) (tim2 an bd) (mns0 (tim0 bn ad) (tim1 bn ad) (tim2 bn ad)) (mns1 (tim0 bn ad) (tim1 bn ad) (tim2 bn ad)) (mns2 (tim0 bn ad) (tim1 bn ad) (tim2 bn ad))) (plu1 (tim0 an bd) (tim1 an bd) (tim2 an bd) (mns0 (tim0 bn ad) (tim1 bn ad) (tim2 bn ad)) (mns1 (tim0 bn ad) (tim1 bn ad) (tim2 bn ad)) (mns2 (tim0 bn ad) (tim1 bn ad) (tim2 bn ad))) (plu2 (tim0 an bd) (tim1 an bd) (tim2 an bd) (mns0 (tim0 bn ad) (tim1 bn ad) (tim2 bn ad)) (mns1 (tim0 bn ad) (tim1 bn ad) (tim2 bn ad)) (mns2 (tim0 bn ad) (tim1 bn ad) (tim2 bn ad))))
   (Q [.int 0])
   (cond (plu2 (tim0 an bd) (tim1 an bd) (tim2 an bd) (mns0 (tim0 bn ad) (tim1 bn ad) (tim2 bn ad)) (mns1 (tim0 bn ad) (tim1 bn ad) (tim2 bn ad)) (mns2 (tim0 bn ad) (tim1 bn ad) (tim2 bn ad)))
    (Q [.int (-1)])
    (Q [.int 1])))
  False)
  False)
  False) := by kernel_rfl
theorem t29 (n : Int) (d : Int) (Q : List Sc → Prop) : (fnT (cfgOf Tryd.prog sigs [23, 58] [39, 74, 83, 84] noLoop) 29 Tryd.f29 (bodyOf Tryd.f29) ⟨[(iv 2)], [i1], none, none, none⟩ 100).holds Φ [.int n, .int d] (resQ Φ Q) =
  (cond (Val0 n d)
   (cond (floP n d)
   (Q [.int (flo0 n d)])
   False)
   (Q [.int 0])) := by kernel_rfl
theorem t30 (n : Int) (d : Int) (Q : List Sc → Prop) : (fnT (cfgOf Tryd.prog sigs [23, 47] [39, 74, 83, 84] noLoop) 30 Tryd.f30 (bodyOf Tryd.f30) ⟨[(iv 2)], [i1], none, none, none⟩ 100).holds Φ [.int n, .int d] (resQ Φ Q) =
  (cond (Val0 n d)
   (cond (sizP n)
   (cond (!(cmpI .eql d 0))
   (cond (!(cmpI .eql d 0))
   (cond (cmpI .lss (arI .rem .i64 (IntKind.wrap .i64 (siz0 n)) d) (arI .sub .i64 d (arI .rem .i64 (IntKind.wrap .i64 (siz0 n)) d)))
    (cond (cmpI .lss n 0)
     (Q [.int (arI .sub .i64 0 (arI .quo .i64 (IntKind.wrap .i64 (siz0 n)) d))])
     (Q [.int (arI .quo .i64 (IntKind.wrap .i64 (siz0 n)) d)]))
    (cond (cmpI .lss n 0)
     (Q [.int (arI .sub .i64 0 (arI .add .i64 (arI .quo .i64 (IntKind.wrap .i64 (siz0 n)) d) 1))])
     (Q [.int (arI .add .i64 (arI .quo .i64 (IntKind.wrap .i64 (siz0 n)) d) 1)])))
   False)
   False)
   False)
   (Q [.int 0])) := by kernel_rfl
theorem t31 (n : Int) (d : Int) (Q : List Sc → Prop) : (fnT (cfgOf Tryd.prog sigs [] [39, 74, 83, 84] noLoop) 31 Tryd.f31 (bodyOf Tryd.f31) ⟨[(iv 2)], [i1], none, none, none⟩ 100).holds Φ [.int n, .int d] (resQ Φ Q) =
  (cond (!(cmpI .eql d 0))
  (cond (!(cmpI .eql d 0))
  (cond (cmpI .lss (arI .rem .i64 n d) 0)
   (Q [.int (arI .sub .i64 (arI .quo .i64 n d) 1)])
   (Q [.int (arI .quo .i64 n d)]))
  False)
  False) := by kernel_rfl
theorem t33 (an : Int) (ad : Int) (bn : Int) (bd : Int) (Q : List Sc → Prop) : (fnT (cfgOf Tryd.prog sigs [23, 27, 59] [39, 74, 83, 84] noLoop) 33 Tryd.f33 (bodyOf Tryd.f33) ⟨[(iv 2), (iv 2)], [(iv 2), i1], none, none, none⟩ 100).holds Φ [.int an, .int ad, .int bn, .int bd] (resQ Φ Q) =
  (cond (Val0 an ad)
   (cond (Val0 bn bd)
    (cond (cmpI .lss 0 (Cmp0 an ad bn bd))
     (Q [.int 0, .int 0, .int 1])
     (cond (cmpI .lss 0 an)
      (cond (simP an ad bn bd)
      (Q [.int (sim0 an ad bn bd), .int (sim1 an ad bn bd), .int 0])
      False)
      (cond (cmpI .lss bn 0)
       (cond (simP (arI .sub .i64 0 bn) bd (arI .sub .i64 0 an) ad)
       (Q [.int (arI .sub .i64 0 (sim0 (arI .sub .i64 0 bn) bd (arI .sub .i64 0 an) ad)), .int (sim1 (arI .sub .i64 0 bn) bd (arI .sub .i64 0 an) ad), .int 0])
       False)
       (Q [.int 0, .int 1, .int 0]))))
    (Q [.int 0, .int 0, .int 1]))
   (Q [.int 0, .int 0, .int 1])) := by kernel_rfl
theorem t34 (an : Int) (ad : Int) (bn : Int) (bd : Int) (Q : List Sc → Prop) : (fnT (cfgOf Tryd.prog sigs [60] [39, 74, 83, 84] noLoop) 34 Tryd.f34 (bodyOf Tryd.f34) ⟨[(iv 2), (iv 2)], [(iv 2)], none, none, none⟩ 100).holds Φ [.int an, .int ad, .int bn, .int bd] (resQ Φ Q) =
  (cond (cmpI .lss 0 an)
   (cond (btwP an ad bn bd)
   (Q [.int (btw0 an ad bn bd), .int (btw1 an ad bn bd)])
   False)
   (cond (cmpI .lss bn 0)
    (cond (btwP (arI .sub .i64 0 bn) bd (arI .sub .i64 0 an) ad)
    (Q [.int (arI .sub .i64 0 (btw0 (arI .sub .i64 0 bn) bd (arI .sub .i64 0 an) ad)), .int (btw1 (arI .sub .i64 0 bn) bd (arI .sub .i64 0 an) ad)])
    False)
    (Q [.int 0, .int 1]))) := by kernel_rfl
theorem t37 (n : Int) (d : Int) (Q : List Sc → Prop) : (fnT (cfgOf Tryd.prog sigs [23, 63] [39, 74, 83, 84] noLoop) 37 Tryd.f37 (bodyOf Tryd.f37) ⟨[(iv 2)], [(.one .str), i1], none, none, none⟩ 100).holds Φ [.int n, .int d] (resQ Φ Q) =
  (cond (Val0 n d)
   (cond (txtP n d)
   (Q [.str (txt0 n d), .int 0])
   False)
   (Q [.str (⟨#[]⟩ : ByteArray), .int 1])) := by kernel_rfl
theorem t41 (an : Int) (ad : Int) (bn : Int) (bd : Int) (Q : List Sc → Prop) : (fnT (cfgOf Tryd.prog sigs [47, 48, 67, 49] [39, 74, 83, 84] noLoop) 41 Tryd.f41 (bodyOf Tryd.f41) ⟨[(iv 2), (iv 2)], [(iv 2), i1], none, none, none⟩ 100).holds Φ [.int an, .int ad, .int bn, .int bd] (resQ Φ Q) =
  (cond (sizP an)
  (cond (gcdP (siz0 an) (IntKind.wrap .u64 bd))
  (cond (sizP bn)
  (cond (gcdP (siz0 bn) (IntKind.wrap .u64 ad))
  (cond (sizP an)
  (cond (!(cmpI .eql (gcd0 (siz0 an) (IntKind.wrap .u64 bd)) 0))
  (cond (sizP bn)
  (cond (!(cmpI .eql (gcd0 (siz0 bn) (IntKind.wrap .u64 ad)) 0))
  (cond (muP (arI .quo .u64 (siz0 an) (gcd0 (siz0 an) (IntKind.wrap .u64 bd))) (arI .quo .u64 (siz0 bn) (gcd0 (siz0 bn) (IntKind.wrap .u64 ad))))
  (cond (!(cmpI .eql (gcd0 (siz0 bn) (IntKind.wrap .u64 ad)) 0))
  (cond (!(cmpI .eql (gcd0 (siz0 an) (IntKind.wrap .u64 bd)) 0))
  (cond (muP (arI .quo .u64 (IntKind.wrap .u64 ad) (gcd0 (siz0 bn) (IntKind.wrap .u64 ad))) (arI .quo .u64 (IntKind.wrap .u64 bd) (gcd0 (siz0 an) (IntKind.wrap .u64 bd))))
  (cond (cmpI .lss 0 (mu0 (arI .quo .u64 (siz0 an) (gcd0 (siz0 an) (IntKind.wrap .u64 bd))) (arI .quo .u64 (siz0 bn) (gcd0 (siz0 bn) (IntKind.wrap .u64 ad)))))
   (Q [.int 0, .int 0, .int 6])
   (cond (cmpI .lss 0 (mu0 (arI .quo .u64 (IntKind.wrap .u64 ad) (gcd0 (siz0 bn) (IntKind.wrap .u64 ad))) (arI .quo .u64 (IntKind.wrap .u64 bd) (gcd0 (siz0 an) (IntKind.wrap .u64 bd)))))
    (Q [.int 0, .int 0, .int 6])
    (cond (makP (!((cmpI .lss an 0) == (cmpI .lss bn 0))) (mu1 (arI .quo .u64 (siz0 an) (gcd0 (siz0 an) (IntKind.wrap .u64 bd))) (arI .quo .u64 (siz0 bn) (gcd0 (siz0 bn) (IntKind.wrap .u64 ad)))) (mu1 (arI .quo .u64 (IntKind.wrap .u64 ad) (gcd0 (siz0 bn) (IntKind.wrap .u64 ad))) (arI .quo .u64 (IntKind.wrap .u64 bd) (gcd0 (siz0 an) (IntKind.wrap .u64 bd)))))
    (Q [.int (mak0 (!((cmpI .lss an 0) == (cmpI .lss bn 0))) (mu1 (arI .quo .u64 (siz0 an) (gcd0 (siz0 an) (IntKind.wrap .u64 bd))) (arI .quo .u64 (siz0 bn) (gcd0 (siz0 bn) (IntKind.wrap .u64 ad)))) (mu1 (arI .quo .u64 (IntKind.wrap .u64 ad) (gcd0 (siz0 bn) (IntKind.wrap .u64 ad))) (arI .quo .u64 (IntKind.wrap .u64 bd) (gcd0 (siz0 an) (IntKind.wrap .u64 bd))))), .int (mak1 (!((cmpI .lss an 0) == (cmpI .lss bn 0))) (mu1 (arI .quo .u64 (siz0 an) (gcd0 (siz0 an) (IntKind.wrap .u64 bd))) (arI .quo .u64 (siz0 bn) (gcd0 (siz0 bn) (IntKind.wrap .u64 ad)))) (mu1 (arI .quo .u64 (IntKind.wrap .u64 ad) (gcd0 (siz0 bn) (IntKind.wrap .u64 ad))) (arI .quo .u64 (IntKind.wrap .u64 bd) (gcd0 (siz0 an) (IntKind.wrap .u64 bd))))), .int (mak2 (!((cmpI .lss an 0) == (cmpI .lss bn 0))) (mu1 (arI .quo .u64 (siz0 an) (gcd0 (siz0 an) (IntKind.wrap .u64 bd))) (arI .quo .u64 (siz0 bn) (gcd0 (siz0 bn) (IntKind.wrap .u64 ad)))) (mu1 (arI .quo .u64 (IntKind.wrap .u64 ad) (gcd0 (siz0 bn) (IntKind.wrap .u64 ad))) (arI .quo .u64 (IntKind.wrap .u64 bd) (gcd0 (siz0 an) (IntKind.wrap .u64 bd)))))])
    False)))
  False)
  False)
  False)
  False)
  False)
  False)
  False)
  False)
  False)
  False)
  False)
  False) := by kernel_rfl
theorem t42 (n : Int) (d : Int) (Q : List Sc → Prop) : (fnT (cfgOf Tryd.prog sigs [] [39, 74, 83, 84] noLoop) 42 Tryd.f42 (bodyOf Tryd.f42) ⟨[i1, i1], [(iv 2)], none, none, none⟩ 100).holds Φ [.int n, .int d] (resQ Φ Q) =
  (Q [.int n, .int d]) := by kernel_rfl
theorem t43 (h : Int) (l : Int) (s : Bool) (i : Int) (m : Int) (t : Bool) (Q : List Sc → Prop) : (fnT (cfgOf Tryd.prog sigs [68, 69] [39, 74, 83, 84] noLoop) 43 Tryd.f43 (bodyOf Tryd.f43) ⟨[(.agg [.int .u64, .int .u64, .bool]), (.agg [.int .u64, .int .u64, .bool])], [(iv 2), i1], none, none, none⟩ 100).holds Φ [.int h, .int l, .bool s, .int i, .int m, .bool t] (resQ Φ Q) =
  (cond (comP i m t h l false)
  (cond (dvdP h l s (com0 i m t h l false) (com1 i m t h l false) (com2 i m t h l false))
  (cond (dvdP i m t (com0 i m t h l false) (com1 i m t h l false) (com2 i m t h l false))
  (cond (cmpI .lss 0 (dvd0 h l s (com0 i m t h l false) (com1 i m t h l false) (com2 i m t h l false)))
   (Q [.int 0, .int 0, .int 6])
   (cond (cmpI .lss (dvd1 h l s (com0 i m t h l false) (com1 i m t h l false) (com2 i m t h l false)) 1000000000000000000)
    (cond (cmpI .lss 0 (dvd0 i m t (com0 i m t h l false) (com1 i m t h l false) (com2 i m t h l false)))
     (Q [.int 0, .int 0, .int 6])
     (cond (cmpI .lss (dvd1 i m t (com0 i m t h l false) (com1 i m t h l false) (com2 i m t h l false)) 1000000000000000000)
      (cond s
       (Q [.int (arI .sub .i64 0 (IntKind.wrap .i64 (dvd1 h l s (com0 i m t h l false) (com1 i m t h l false) (com2 i m t h l false)))), .int (IntKind.wrap .i64 (dvd1 i m t (com0 i m t h l false) (com1 i m t h l false) (com2 i m t h l false))), .int 0])
       (Q [.int (IntKind.wrap .i64 (dvd1 h l s (com0 i m t h l false) (com1 i m t h l false) (com2 i m t h l false))), .int (IntKind.wrap .i64 (dvd1 i m t (com0 i m t h l false) (com1 i m t h l false) (com2 i m t h l false))), .int 0]))
      (Q [.int 0, .int 0, .int 6])))
    (Q [.int 0, .int 0, .int 6])))
  False)
  False)
  False) := by kernel_rfl
theorem t44 (h : Int) (l : Int) (s : Bool) (i : Int) (m : Int) (t : Bool) (Q : List Sc → Prop) : (fnT (cfgOf Tryd.prog sigs [70, 71, 72] [39, 74, 83, 84] noLoop) 44 Tryd.f44 (bodyOf Tryd.f44) ⟨[(.agg [.int .u64, .int .u64, .bool]), (.agg [.int .u64, .int .u64, .bool])], [(.agg [.int .u64, .int .u64, .bool])], none, none, none⟩ 100).holds Φ [.int h, .int l, .bool s, .int i, .int m, .bool t] (resQ Φ Q) =
  (cond (s == t)
   (cond (adP l m 0)
   (cond (adP h i (ad1 l m 0))
   (Q [.int (ad0 h i (ad1 l m 0)), .int (ad0 l m 0), .bool s])
   False)
   False)
   (cond (abvP i m t h l s)
   (cond (abv0 i m t h l s)
    (cond (sb'P m l 0)
    (cond (sb'P i h (sb'1 m l 0))
    (Q [.int (sb'0 i h (sb'1 m l 0)), .int (sb'0 m l 0), .bool t])
    False)
    False)
    (cond (sb'P l m 0)
    (cond (sb'P h i (sb'1 l m 0))
    (Q [.int (sb'0 h i (sb'1 l m 0)), .int (sb'0 l m 0), .bool s])
    False)
    False))
   False)) := by kernel_rfl
theorem t45 (a : Int) (b : Int) (Q : List Sc → Prop) : (fnT (cfgOf Tryd.prog sigs [52, 67] [39, 74, 83, 84] noLoop) 45 Tryd.f45 (bodyOf Tryd.f45) ⟨[i1, i1], [(.agg [.int .u64, .int .u64, .bool])], none, none, none⟩ 100).holds Φ [.int a, .int b] (resQ Φ Q) =
  (cond (rsizP a)
  (cond (rsizP b)
  (cond (muP (rsiz0 a) (rsiz0 b))
  (Q [.int (mu0 (rsiz0 a) (rsiz0 b)), .int (mu1 (rsiz0 a) (rsiz0 b)), .bool (!((cmpI .lss a 0) == (cmpI .lss b 0)))])
  False)
  False)
  False) := by kernel_rfl
theorem t46 (h : Int) (l : Int) (s : Bool) (Q : List Sc → Prop) : (fnT (cfgOf Tryd.prog sigs [] [39, 74, 83, 84] noLoop) 46 Tryd.f46 (bodyOf Tryd.f46) ⟨[(.agg [.int .u64, .int .u64, .bool])], [(.agg [.int .u64, .int .u64, .bool])], none, none, none⟩ 100).holds Φ [.int h, .int l, .bool s] (resQ Φ Q) =
  (Q [.int h, .int l, .bool (!s)]) := by kernel_rfl
theorem t47 (n : Int) (Q : List Sc → Prop) : (fnT (cfgOf Tryd.prog sigs [] [39, 74, 83, 84] noLoop) 47 Tryd.f47 (bodyOf Tryd.f47) ⟨[i1], [(.one (.int .u64))], none, none, none⟩ 100).holds Φ [.int n] (resQ Φ Q) =
  (cond (cmpI .lss n 0)
   (Q [.int (arI .sub .u64 0 (IntKind.wrap .u64 n))])
   (Q [.int (IntKind.wrap .u64 n)])) := by kernel_rfl
theorem t48 : fnT (cfgOf Tryd.prog sigs [] [39, 74, 83, 84] (fun f r => if f = 48 then (if r = 1 then some ⟨[(0, (.int .u64)), (1, (.int .u64))], []⟩ else none) else none)) 48 Tryd.f48 (bodyOf Tryd.f48) ⟨[(.one (.int .u64)), (.one (.int .u64))], [(.one (.int .u64))], none, none, none⟩ 100 =
  (.loop [(.var 0), (.var 1)]
   (.ite (.cmp .eql (.var 3) (.int 0))
    (.leaf (.res [(.toI (.var 2))]))
    (.leaf (.cont 0 [(.var 3), (.ar .rem .u64 (.var 2) (.var 3))])))) := by kernel_rfl
theorem t49 (s : Bool) (a : Int) (b : Int) (Q : List Sc → Prop) : (fnT (cfgOf Tryd.prog sigs [] [39, 74, 83, 84] noLoop) 49 Tryd.f49 (bodyOf Tryd.f49) ⟨[sb, (.one (.int .u64)), (.one (.int .u64))], [(iv 2), i1], none, none, none⟩ 100).holds Φ [.bool s, .int a, .int b] (resQ Φ Q) =
  (cond (cmpI .lss a 1000000000000000000)
   (cond (cmpI .lss b 1000000000000000000)
    (cond s
     (Q [.int (arI .sub .i64 0 (IntKind.wrap .i64 a)), .int (IntKind.wrap .i64 b), .int 0])
     (Q [.int (IntKind.wrap .i64 a), .int (IntKind.wrap .i64 b), .int 0]))
    (Q [.int 0, .int 0, .int 6]))
   (Q [.int 0, .int 0, .int 6])) := by kernel_rfl
theorem t50 (n : Int) (Q : List Sc → Prop) : (fnT (cfgOf Tryd.prog sigs [45] [39, 74, 83, 84] noLoop) 50 Tryd.f50 (bodyOf Tryd.f50) ⟨[i1], [(.agg [.int .u64, .int .u64, .bool])], none, none, none⟩ 100).holds Φ [.int n] (resQ Φ Q) =
  (cond (timP n 1)
  (Q [.int (tim0 n 1), .int (tim1 n 1), .bool (tim2 n 1)])
  False) := by kernel_rfl
theorem t51 : fnT (cfgOf Tryd.prog sigs [] [39, 74, 83, 84] (fun f r => if f = 51 then (if r = 1 then some ⟨[(0, (.int .u64)), (1, (.int .u64))], []⟩ else none) else none)) 51 Tryd.f51 (bodyOf Tryd.f51) ⟨[(.one (.int .u64)), (.one (.int .u64))], [(.one (.int .u64))], none, none, none⟩ 100 =
  (.loop [(.var 0), (.var 1)]
   (.ite (.cmp .eql (.var 3) (.int 0))
    (.leaf (.res [(.toI (.var 2))]))
    (.leaf (.cont 0 [(.var 3), (.ar .rem .u64 (.var 2) (.var 3))])))) := by kernel_rfl
theorem t52 (n : Int) (Q : List Sc → Prop) : (fnT (cfgOf Tryd.prog sigs [] [39, 74, 83, 84] noLoop) 52 Tryd.f52 (bodyOf Tryd.f52) ⟨[i1], [(.one (.int .u64))], none, none, none⟩ 100).holds Φ [.int n] (resQ Φ Q) =
  (cond (cmpI .lss n 0)
   (Q [.int (arI .sub .u64 0 (IntKind.wrap .u64 n))])
   (Q [.int (IntKind.wrap .u64 n)])) := by kernel_rfl
theorem t53 (a : Int) (b : Int) (Q : List Sc → Prop) : (fnT (cfgOf Tryd.prog sigs [47, 67] [39, 74, 83, 84] noLoop) 53 Tryd.f53 (bodyOf Tryd.f53) ⟨[i1, i1], [(.agg [.bool, .int .u64, .int .u64])], none, none, none⟩ 100).holds Φ [.int a, .int b] (resQ Φ Q) =
  (cond (sizP a)
  (cond (sizP b)
  (cond (muP (siz0 a) (siz0 b))
  (Q [.bool (!((cmpI .lss a 0) == (cmpI .lss b 0))), .int (mu0 (siz0 a) (siz0 b)), .int (mu1 (siz0 a) (siz0 b))])
  False)
  False)
  False) := by kernel_rfl
theorem t54 (n : Int) (d : Int) (Q : List Sc → Prop) : (fnT (cfgOf Tryd.prog sigs [73] [39, 74, 83, 84] noLoop) 54 Tryd.f54 (bodyOf Tryd.f54) ⟨[(iv 2)], [i1], none, none, none⟩ 100).holds Φ [.int n, .int d] (resQ Φ Q) =
  (Q [.int (cj0 n 0)]) := by kernel_rfl
theorem t55 (a : Int) (b : Int) (Q : List Sc → Prop) : (fnT (cfgOf Tryd.prog sigs [] [39, 74, 83, 84] noLoop) 55 Tryd.f55 (bodyOf Tryd.f55) ⟨[i1, i1], [i1], none, none, none⟩ 100).holds Φ [.int a, .int b] (resQ Φ Q) =
  (cond (cmpI .eql a a)
   (cond (cmpI .eql b b)
    (cond (cmpI .lss a b)
     (Q [.int (-1)])
     (cond (cmpI .lss b a)
      (Q [.int 1])
      (Q [.int 0])))
    (Q [.int 1]))
   (cond (cmpI .eql b b)
    (Q [.int (-1)])
    (Q [.int 0]))) := by kernel_rfl
theorem t56 (s : Bool) (h : Int) (l : Int) (t : Bool) (i : Int) (m : Int) (Q : List Sc → Prop) : (fnT (cfgOf Tryd.prog sigs [76, 75] [39, 74, 83, 84] noLoop) 56 Tryd.f56 (bodyOf Tryd.f56) ⟨[(.agg [.bool, .int .u64, .int .u64]), (.agg [.bool, .int .u64, .int .u64])], [i1], none, none, none⟩ 100).holds Φ [.bool s, .int h, .int l, .bool t, .int i, .int m] (resQ Φ Q) =
  (Q [.int (fst0 [(cu0 h i), (cu0 l m)])]) := by kernel_rfl
theorem t57 (h : Int) (l : Int) (s : Bool) (Q : List Sc → Prop) : (fnT (cfgOf Tryd.prog sigs [] [39, 74, 83, 84] noLoop) 57 Tryd.f57 (bodyOf Tryd.f57) ⟨[(.agg [.int .u64, .int .u64, .bool])], [sb], none, none, none⟩ 100).holds Φ [.int h, .int l, .bool s] (resQ Φ Q) =
  (cond (cmpI .eql h 0)
   (Q [.bool (cmpI .eql l 0)])
   (Q [.bool false])) := by kernel_rfl
theorem t58 (n : Int) (d : Int) (Q : List Sc → Prop) : (fnT (cfgOf Tryd.prog sigs [] [39, 74, 83, 84] noLoop) 58 Tryd.f58 (bodyOf Tryd.f58) ⟨[i1, i1], [i1], none, none, none⟩ 100).holds Φ [.int n, .int d] (resQ Φ Q) =
  (cond (!(cmpI .eql d 0))
  (cond (!(cmpI .eql d 0))
  (cond (cmpI .lss (arI .rem .i64 n d) 0)
   (Q [.int (arI .sub .i64 (arI .quo .i64 n d) 1)])
   (Q [.int (arI .quo .i64 n d)]))
  False)
  False) := by kernel_rfl
theorem t65 (s : Bool) (h : Int) (l : Int) (t : Bool) (i : Int) (m : Int) (Q : List Sc → Prop) : (fnT (cfgOf Tryd.prog sigs [70, 56, 72] [39, 74, 83, 84] noLoop) 65 Tryd.f65 (bodyOf Tryd.f65) ⟨[(.agg [.bool, .int .u64, .int .u64]), (.agg [.bool, .int .u64, .int .u64])], [(.agg [.bool, .int .u64, .int .u64])], none, none, none⟩ 100).holds Φ [.bool s, .int h, .int l, .bool t, .int i, .int m] (resQ Φ Q) =
  (cond (s == t)
   (cond (adP l m 0)
   (Q [.bool s, .int (arI .add .u64 (arI .add .u64 h i) (ad1 l m 0)), .int (ad0 l m 0)])
   False)
   (cond (cmwP s h l t i m)
   (cond (cmpI .lss (cmw0 s h l t i m) 0)
    (cond (sb'P m l 0)
    (Q [.bool t, .int (arI .sub .u64 (arI .sub .u64 i h) (sb'1 m l 0)), .int (sb'0 m l 0)])
    False)
    (cond (sb'P l m 0)
    (Q [.bool s, .int (arI .sub .u64 (arI .sub .u64 h i) (sb'1 l m 0)), .int (sb'0 l m 0)])
    False))
   False)) := by kernel_rfl
theorem t66 (s : Bool) (h : Int) (l : Int) (d : Int) (Q : List Sc → Prop) : (fnT (cfgOf Tryd.prog sigs [81] [39, 74, 83, 84] noLoop) 66 Tryd.f66 (bodyOf Tryd.f66) ⟨[(.agg [.bool, .int .u64, .int .u64]), (.one (.int .u64))], [(.one (.int .u64)), (.one (.int .u64)), sb], none, none, none⟩ 100).holds Φ [.bool s, .int h, .int l, .int d] (resQ Φ Q) =
  (cond (!(cmpI .eql d 0))
  (cond (divP (arI .rem .u64 h d) l d)
  (Q [.int (div0 (arI .rem .u64 h d) l d), .int (div1 (arI .rem .u64 h d) l d), .bool (cmpI .lss h d)])
  False)
  False) := by kernel_rfl
theorem t71 (h : Int) (l : Int) (s : Bool) (i : Int) (m : Int) (t : Bool) (Q : List Sc → Prop) : (fnT (cfgOf Tryd.prog sigs [] [39, 74, 83, 84] noLoop) 71 Tryd.f71 (bodyOf Tryd.f71) ⟨[(.agg [.int .u64, .int .u64, .bool]), (.agg [.int .u64, .int .u64, .bool])], [sb], none, none, none⟩ 100).holds Φ [.int h, .int l, .bool s, .int i, .int m, .bool t] (resQ Φ Q) =
  (cond (cmpI .lss i h)
   (Q [.bool true])
   (cond (cmpI .eql h i)
    (Q [.bool (cmpI .lss m l)])
    (Q [.bool false]))) := by kernel_rfl
theorem t73 (a : Int) (b : Int) (Q : List Sc → Prop) : (fnT (cfgOf Tryd.prog sigs [] [39, 74, 83, 84] noLoop) 73 Tryd.f73 (bodyOf Tryd.f73) ⟨[i1, i1], [i1], none, none, none⟩ 100).holds Φ [.int a, .int b] (resQ Φ Q) =
  (cond (cmpI .eql a a)
   (cond (cmpI .eql b b)
    (cond (cmpI .lss a b)
     (Q [.int (-1)])
     (cond (cmpI .lss b a)
      (Q [.int 1])
      (Q [.int 0])))
    (Q [.int 1]))
   (cond (cmpI .eql b b)
    (Q [.int (-1)])
    (Q [.int 0]))) := by kernel_rfl
theorem t76 (a : Int) (b : Int) (Q : List Sc → Prop) : (fnT (cfgOf Tryd.prog sigs [] [39, 74, 83, 84] noLoop) 76 Tryd.f76 (bodyOf Tryd.f76) ⟨[(.one (.int .u64)), (.one (.int .u64))], [i1], none, none, none⟩ 100).holds Φ [.int a, .int b] (resQ Φ Q) =
  (cond (cmpI .eql a a)
   (cond (cmpI .eql b b)
    (cond (cmpI .lss a b)
     (Q [.int (-1)])
     (cond (cmpI .lss b a)
      (Q [.int 1])
      (Q [.int 0])))
    (Q [.int 1]))
   (cond (cmpI .eql b b)
    (Q [.int (-1)])
    (Q [.int 0]))) := by kernel_rfl
theorem t82 (h : Int) (l : Int) (s : Bool) (k : Int) (Q : List Sc → Prop) : (fnT (cfgOf Tryd.prog sigs [] [39, 74, 83, 84] noLoop) 82 Tryd.f82 (bodyOf Tryd.f82) ⟨[(.agg [.int .u64, .int .u64, .bool]), i1], [(.one (.int .u64))], none, none, none⟩ 100).holds Φ [.int h, .int l, .bool s, .int k] (resQ Φ Q) =
  (cond (cmpI .lss k 64)
   (cond (!(cmpI .lss k 0))
   (Q [.int (arI .and .u64 (arI .shr .u64 l k) 1)])
   False)
   (cond (!(cmpI .lss (arI .sub .i64 k 64) 0))
   (Q [.int (arI .and .u64 (arI .shr .u64 h (arI .sub .i64 k 64)) 1)])
   False)) := by kernel_rfl
end Go.Proofs.YtkmffnjmiechfaaDoor
