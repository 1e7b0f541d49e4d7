/- The kerf seat: what each function answers, in plain Lean. -/
import Derived.Test.YtdfcphfoccgopaaK1
namespace Go.Proofs.Ytdfcphfoccgopaa
open Go.Sx
set_option linter.unusedVariables false
abbrev iv (n : Nat) : Sh := .agg (List.replicate n (.int .i64))
abbrev i1 : Sh := .one (.int .i64)
abbrev sb : Sh := .one .bool
def inC (n : Int) : Bool := decide (-1000000 ≤ n) && decide (n ≤ 1000000)
def in3 (x y z : Int) : Bool := inC x && inC y && inC z
def inB (x0 y0 z0 x1 y1 z1 : Int) : Bool := in3 x0 y0 z0 && in3 x1 y1 z1
def inA (n : Int) : Bool := decide (0 ≤ n) && decide (n ≤ 2)
def inK (n : Int) : Bool := decide (0 ≤ n) && decide (n ≤ 1000)
def inL (n : Int) : Bool := decide (1 ≤ n) && decide (n ≤ 2000000)
/-- The error of a box. -/
def chkB (x0 y0 z0 x1 y1 z1 : Int) : Int := if inB x0 y0 z0 x1 y1 z1 = true then (if x0 < x1 ∧ y0 < y1 ∧ z0 < z1 then 0 else 1) else 6
/-- A coordinate on an axis; a coordinate put in its place. -/
def gx (x y z ax : Int) : Int := if ax = 0 then x else if ax = 1 then y else z
def pX (x ax n : Int) : Int := if ax = 0 then n else x
def pY (y ax n : Int) : Int := if ax = 1 then n else y
def pZ (z ax n : Int) : Int := if ax = 2 then n else z
def volE (x0 y0 z0 x1 y1 z1 : Int) : Int := (x1 - x0) * (y1 - y0) * (z1 - z0)
def chkC (x0 y0 z0 x1 y1 z1 ax p k : Int) : Int :=
  if chkB x0 y0 z0 x1 y1 z1 = 0 then (if inA ax = true then (if inK k = true then (if gx x0 y0 z0 ax < p ∧ p < gx x1 y1 z1 ax - k then 0 else 12) else 6) else 1) else chkB x0 y0 z0 x1 y1 z1
def insE (x0 y0 z0 x1 y1 z1 a0 b0 c0 a1 b1 c1 : Int) : Bool := decide (a0 ≤ x0 ∧ x1 ≤ a1 ∧ b0 ≤ y0 ∧ y1 ≤ b1 ∧ c0 ≤ z0 ∧ z1 ≤ c1)
def joiE (x0 y0 z0 x1 y1 z1 a0 b0 c0 a1 b1 c1 ax : Int) : Int :=
  if chkB x0 y0 z0 x1 y1 z1 = 0 then (if chkB a0 b0 c0 a1 b1 c1 = 0 then (if inA ax = true then
    (if (gx x1 y1 z1 ax ≤ gx a0 b0 c0 ax ∧ gx a0 b0 c0 ax - gx x1 y1 z1 ax ≤ 1000) ∧ (ax = 0 ∨ x0 = a0 ∧ x1 = a1) ∧ (ax = 1 ∨ y0 = b0 ∧ y1 = b1) ∧ (ax = 2 ∨ z0 = c0 ∧ z1 = c1) then 0 else 10) else 1)
    else chkB a0 b0 c0 a1 b1 c1) else chkB x0 y0 z0 x1 y1 z1
def mstE (l t k : Int) : Int := if inL l = true ∧ inL t = true ∧ inK k = true then 0 else 6
def thkN (l s k : Int) : Int := (l + k - s * k).tdiv s
def thkE (l s k : Int) : Int := if inL l = true ∧ (1 ≤ s ∧ s ≤ 1000) ∧ inK k = true then (if thkN l s k < 1 then 9 else 0) else 6
def cntN (x0 y0 z0 x1 y1 z1 ax t k : Int) : Int := (gx x1 y1 z1 ax - gx x0 y0 z0 ax + k) / (t + k)
def cntE (x0 y0 z0 x1 y1 z1 ax t k : Int) : Int :=
  if chkB x0 y0 z0 x1 y1 z1 = 0 then (if inA ax = true then (if inL t = true ∧ inK k = true then (if cntN x0 y0 z0 x1 y1 z1 ax t k = 0 then 9 else if 1000 < cntN x0 y0 z0 x1 y1 z1 ax t k then 7 else 0) else 6) else 1) else chkB x0 y0 z0 x1 y1 z1
def fst0 (l : List Int) : Int := firstE l


def awk0  : Bool := true
def rChk0 (x0 : Int) (y0 : Int) (z0 : Int) (x1 : Int) (y1 : Int) (z1 : Int) (ax : Int) (p : Int) (k : Int) : Int := chkC x0 y0 z0 x1 y1 z1 ax p k
def spl0 (x0 : Int) (y0 : Int) (z0 : Int) (x1 : Int) (y1 : Int) (z1 : Int) (ax : Int) (p : Int) (k : Int) : Int := if chkC x0 y0 z0 x1 y1 z1 ax p k = 0 then x0 else 0
def spl1 (x0 : Int) (y0 : Int) (z0 : Int) (x1 : Int) (y1 : Int) (z1 : Int) (ax : Int) (p : Int) (k : Int) : Int := if chkC x0 y0 z0 x1 y1 z1 ax p k = 0 then y0 else 0
def spl2 (x0 : Int) (y0 : Int) (z0 : Int) (x1 : Int) (y1 : Int) (z1 : Int) (ax : Int) (p : Int) (k : Int) : Int := if chkC x0 y0 z0 x1 y1 z1 ax p k = 0 then z0 else 0
def spl3 (x0 : Int) (y0 : Int) (z0 : Int) (x1 : Int) (y1 : Int) (z1 : Int) (ax : Int) (p : Int) (k : Int) : Int := if chkC x0 y0 z0 x1 y1 z1 ax p k = 0 then pX x1 ax p else 0
def spl4 (x0 : Int) (y0 : Int) (z0 : Int) (x1 : Int) (y1 : Int) (z1 : Int) (ax : Int) (p : Int) (k : Int) : Int := if chkC x0 y0 z0 x1 y1 z1 ax p k = 0 then pY y1 ax p else 0
def spl5 (x0 : Int) (y0 : Int) (z0 : Int) (x1 : Int) (y1 : Int) (z1 : Int) (ax : Int) (p : Int) (k : Int) : Int := if chkC x0 y0 z0 x1 y1 z1 ax p k = 0 then pZ z1 ax p else 0
def spl6 (x0 : Int) (y0 : Int) (z0 : Int) (x1 : Int) (y1 : Int) (z1 : Int) (ax : Int) (p : Int) (k : Int) : Int := if chkC x0 y0 z0 x1 y1 z1 ax p k = 0 then (if 0 < k then pX x0 ax p else 0) else 0
def spl7 (x0 : Int) (y0 : Int) (z0 : Int) (x1 : Int) (y1 : Int) (z1 : Int) (ax : Int) (p : Int) (k : Int) : Int := if chkC x0 y0 z0 x1 y1 z1 ax p k = 0 then (if 0 < k then pY y0 ax p else 0) else 0
def spl8 (x0 : Int) (y0 : Int) (z0 : Int) (x1 : Int) (y1 : Int) (z1 : Int) (ax : Int) (p : Int) (k : Int) : Int := if chkC x0 y0 z0 x1 y1 z1 ax p k = 0 then (if 0 < k then pZ z0 ax p else 0) else 0
def spl9 (x0 : Int) (y0 : Int) (z0 : Int) (x1 : Int) (y1 : Int) (z1 : Int) (ax : Int) (p : Int) (k : Int) : Int := if chkC x0 y0 z0 x1 y1 z1 ax p k = 0 then (if 0 < k then pX x1 ax (p + k) else 0) else 0
def spl10 (x0 : Int) (y0 : Int) (z0 : Int) (x1 : Int) (y1 : Int) (z1 : Int) (ax : Int) (p : Int) (k : Int) : Int := if chkC x0 y0 z0 x1 y1 z1 ax p k = 0 then (if 0 < k then pY y1 ax (p + k) else 0) else 0
def spl11 (x0 : Int) (y0 : Int) (z0 : Int) (x1 : Int) (y1 : Int) (z1 : Int) (ax : Int) (p : Int) (k : Int) : Int := if chkC x0 y0 z0 x1 y1 z1 ax p k = 0 then (if 0 < k then pZ z1 ax (p + k) else 0) else 0
def spl12 (x0 : Int) (y0 : Int) (z0 : Int) (x1 : Int) (y1 : Int) (z1 : Int) (ax : Int) (p : Int) (k : Int) : Int := if chkC x0 y0 z0 x1 y1 z1 ax p k = 0 then pX x0 ax (p + k) else 0
def spl13 (x0 : Int) (y0 : Int) (z0 : Int) (x1 : Int) (y1 : Int) (z1 : Int) (ax : Int) (p : Int) (k : Int) : Int := if chkC x0 y0 z0 x1 y1 z1 ax p k = 0 then pY y0 ax (p + k) else 0
def spl14 (x0 : Int) (y0 : Int) (z0 : Int) (x1 : Int) (y1 : Int) (z1 : Int) (ax : Int) (p : Int) (k : Int) : Int := if chkC x0 y0 z0 x1 y1 z1 ax p k = 0 then pZ z0 ax (p + k) else 0
def spl15 (x0 : Int) (y0 : Int) (z0 : Int) (x1 : Int) (y1 : Int) (z1 : Int) (ax : Int) (p : Int) (k : Int) : Int := if chkC x0 y0 z0 x1 y1 z1 ax p k = 0 then x1 else 0
def spl16 (x0 : Int) (y0 : Int) (z0 : Int) (x1 : Int) (y1 : Int) (z1 : Int) (ax : Int) (p : Int) (k : Int) : Int := if chkC x0 y0 z0 x1 y1 z1 ax p k = 0 then y1 else 0
def spl17 (x0 : Int) (y0 : Int) (z0 : Int) (x1 : Int) (y1 : Int) (z1 : Int) (ax : Int) (p : Int) (k : Int) : Int := if chkC x0 y0 z0 x1 y1 z1 ax p k = 0 then z1 else 0
def spl18 (x0 : Int) (y0 : Int) (z0 : Int) (x1 : Int) (y1 : Int) (z1 : Int) (ax : Int) (p : Int) (k : Int) : Int := chkC x0 y0 z0 x1 y1 z1 ax p k
def our0 (ax : Int) (p : Int) (k : Int) : Int := ax
def our1 (ax : Int) (p : Int) (k : Int) : Int := p
def our2 (ax : Int) (p : Int) (k : Int) : Int := k
def los0 (x0 : Int) (y0 : Int) (z0 : Int) (x1 : Int) (y1 : Int) (z1 : Int) (ax : Int) (p : Int) (k : Int) : Int := if chkC x0 y0 z0 x1 y1 z1 ax p k = 0 then (volE (if 0 < k then pX x0 ax p else 0) (if 0 < k then pY y0 ax p else 0) (if 0 < k then pZ z0 ax p else 0) (if 0 < k then pX x1 ax (p + k) else 0) (if 0 < k then pY y1 ax (p + k) else 0) (if 0 < k then pZ z1 ax (p + k) else 0)) else 0
def los1 (x0 : Int) (y0 : Int) (z0 : Int) (x1 : Int) (y1 : Int) (z1 : Int) (ax : Int) (p : Int) (k : Int) : Int := chkC x0 y0 z0 x1 y1 z1 ax p k
def chk0 (x0 : Int) (y0 : Int) (z0 : Int) (x1 : Int) (y1 : Int) (z1 : Int) (ax : Int) (p : Int) (k : Int) : Int := chkC x0 y0 z0 x1 y1 z1 ax p k
def rSpl0 (x0 : Int) (y0 : Int) (z0 : Int) (x1 : Int) (y1 : Int) (z1 : Int) (ax : Int) (p : Int) (k : Int) : Int := x0
def rSpl1 (x0 : Int) (y0 : Int) (z0 : Int) (x1 : Int) (y1 : Int) (z1 : Int) (ax : Int) (p : Int) (k : Int) : Int := y0
def rSpl2 (x0 : Int) (y0 : Int) (z0 : Int) (x1 : Int) (y1 : Int) (z1 : Int) (ax : Int) (p : Int) (k : Int) : Int := z0
def rSpl3 (x0 : Int) (y0 : Int) (z0 : Int) (x1 : Int) (y1 : Int) (z1 : Int) (ax : Int) (p : Int) (k : Int) : Int := pX x1 ax p
def rSpl4 (x0 : Int) (y0 : Int) (z0 : Int) (x1 : Int) (y1 : Int) (z1 : Int) (ax : Int) (p : Int) (k : Int) : Int := pY y1 ax p
def rSpl5 (x0 : Int) (y0 : Int) (z0 : Int) (x1 : Int) (y1 : Int) (z1 : Int) (ax : Int) (p : Int) (k : Int) : Int := pZ z1 ax p
def rSpl6 (x0 : Int) (y0 : Int) (z0 : Int) (x1 : Int) (y1 : Int) (z1 : Int) (ax : Int) (p : Int) (k : Int) : Int := (if 0 < k then pX x0 ax p else 0)
def rSpl7 (x0 : Int) (y0 : Int) (z0 : Int) (x1 : Int) (y1 : Int) (z1 : Int) (ax : Int) (p : Int) (k : Int) : Int := (if 0 < k then pY y0 ax p else 0)
def rSpl8 (x0 : Int) (y0 : Int) (z0 : Int) (x1 : Int) (y1 : Int) (z1 : Int) (ax : Int) (p : Int) (k : Int) : Int := (if 0 < k then pZ z0 ax p else 0)
def rSpl9 (x0 : Int) (y0 : Int) (z0 : Int) (x1 : Int) (y1 : Int) (z1 : Int) (ax : Int) (p : Int) (k : Int) : Int := (if 0 < k then pX x1 ax (p + k) else 0)
def rSpl10 (x0 : Int) (y0 : Int) (z0 : Int) (x1 : Int) (y1 : Int) (z1 : Int) (ax : Int) (p : Int) (k : Int) : Int := (if 0 < k then pY y1 ax (p + k) else 0)
def rSpl11 (x0 : Int) (y0 : Int) (z0 : Int) (x1 : Int) (y1 : Int) (z1 : Int) (ax : Int) (p : Int) (k : Int) : Int := (if 0 < k then pZ z1 ax (p + k) else 0)
def rSpl12 (x0 : Int) (y0 : Int) (z0 : Int) (x1 : Int) (y1 : Int) (z1 : Int) (ax : Int) (p : Int) (k : Int) : Int := pX x0 ax (p + k)
def rSpl13 (x0 : Int) (y0 : Int) (z0 : Int) (x1 : Int) (y1 : Int) (z1 : Int) (ax : Int) (p : Int) (k : Int) : Int := pY y0 ax (p + k)
def rSpl14 (x0 : Int) (y0 : Int) (z0 : Int) (x1 : Int) (y1 : Int) (z1 : Int) (ax : Int) (p : Int) (k : Int) : Int := pZ z0 ax (p + k)
def rSpl15 (x0 : Int) (y0 : Int) (z0 : Int) (x1 : Int) (y1 : Int) (z1 : Int) (ax : Int) (p : Int) (k : Int) : Int := x1
def rSpl16 (x0 : Int) (y0 : Int) (z0 : Int) (x1 : Int) (y1 : Int) (z1 : Int) (ax : Int) (p : Int) (k : Int) : Int := y1
def rSpl17 (x0 : Int) (y0 : Int) (z0 : Int) (x1 : Int) (y1 : Int) (z1 : Int) (ax : Int) (p : Int) (k : Int) : Int := z1
def rSplP (x0 : Int) (y0 : Int) (z0 : Int) (x1 : Int) (y1 : Int) (z1 : Int) (ax : Int) (p : Int) (k : Int) : Bool := decide (chkC x0 y0 z0 x1 y1 z1 ax p k = 0)
def rVol0 (x0 : Int) (y0 : Int) (z0 : Int) (x1 : Int) (y1 : Int) (z1 : Int) : Int := volE x0 y0 z0 x1 y1 z1
def rVolP (x0 : Int) (y0 : Int) (z0 : Int) (x1 : Int) (y1 : Int) (z1 : Int) : Bool := inB x0 y0 z0 x1 y1 z1
def joi0 (x0 : Int) (y0 : Int) (z0 : Int) (x1 : Int) (y1 : Int) (z1 : Int) (a0 : Int) (b0 : Int) (c0 : Int) (a1 : Int) (b1 : Int) (c1 : Int) (ax : Int) : Int := if joiE x0 y0 z0 x1 y1 z1 a0 b0 c0 a1 b1 c1 ax = 0 then x0 else 0
def joi1 (x0 : Int) (y0 : Int) (z0 : Int) (x1 : Int) (y1 : Int) (z1 : Int) (a0 : Int) (b0 : Int) (c0 : Int) (a1 : Int) (b1 : Int) (c1 : Int) (ax : Int) : Int := if joiE x0 y0 z0 x1 y1 z1 a0 b0 c0 a1 b1 c1 ax = 0 then y0 else 0
def joi2 (x0 : Int) (y0 : Int) (z0 : Int) (x1 : Int) (y1 : Int) (z1 : Int) (a0 : Int) (b0 : Int) (c0 : Int) (a1 : Int) (b1 : Int) (c1 : Int) (ax : Int) : Int := if joiE x0 y0 z0 x1 y1 z1 a0 b0 c0 a1 b1 c1 ax = 0 then z0 else 0
def joi3 (x0 : Int) (y0 : Int) (z0 : Int) (x1 : Int) (y1 : Int) (z1 : Int) (a0 : Int) (b0 : Int) (c0 : Int) (a1 : Int) (b1 : Int) (c1 : Int) (ax : Int) : Int := if joiE x0 y0 z0 x1 y1 z1 a0 b0 c0 a1 b1 c1 ax = 0 then a1 else 0
def joi4 (x0 : Int) (y0 : Int) (z0 : Int) (x1 : Int) (y1 : Int) (z1 : Int) (a0 : Int) (b0 : Int) (c0 : Int) (a1 : Int) (b1 : Int) (c1 : Int) (ax : Int) : Int := if joiE x0 y0 z0 x1 y1 z1 a0 b0 c0 a1 b1 c1 ax = 0 then b1 else 0
def joi5 (x0 : Int) (y0 : Int) (z0 : Int) (x1 : Int) (y1 : Int) (z1 : Int) (a0 : Int) (b0 : Int) (c0 : Int) (a1 : Int) (b1 : Int) (c1 : Int) (ax : Int) : Int := if joiE x0 y0 z0 x1 y1 z1 a0 b0 c0 a1 b1 c1 ax = 0 then c1 else 0
def joi6 (x0 : Int) (y0 : Int) (z0 : Int) (x1 : Int) (y1 : Int) (z1 : Int) (a0 : Int) (b0 : Int) (c0 : Int) (a1 : Int) (b1 : Int) (c1 : Int) (ax : Int) : Int := if joiE x0 y0 z0 x1 y1 z1 a0 b0 c0 a1 b1 c1 ax = 0 then ax else 0
def joi7 (x0 : Int) (y0 : Int) (z0 : Int) (x1 : Int) (y1 : Int) (z1 : Int) (a0 : Int) (b0 : Int) (c0 : Int) (a1 : Int) (b1 : Int) (c1 : Int) (ax : Int) : Int := if joiE x0 y0 z0 x1 y1 z1 a0 b0 c0 a1 b1 c1 ax = 0 then gx x1 y1 z1 ax else 0
def joi8 (x0 : Int) (y0 : Int) (z0 : Int) (x1 : Int) (y1 : Int) (z1 : Int) (a0 : Int) (b0 : Int) (c0 : Int) (a1 : Int) (b1 : Int) (c1 : Int) (ax : Int) : Int := if joiE x0 y0 z0 x1 y1 z1 a0 b0 c0 a1 b1 c1 ax = 0 then gx a0 b0 c0 ax - gx x1 y1 z1 ax else 0
def joi9 (x0 : Int) (y0 : Int) (z0 : Int) (x1 : Int) (y1 : Int) (z1 : Int) (a0 : Int) (b0 : Int) (c0 : Int) (a1 : Int) (b1 : Int) (c1 : Int) (ax : Int) : Int := joiE x0 y0 z0 x1 y1 z1 a0 b0 c0 a1 b1 c1 ax
def rJoi0 (x0 : Int) (y0 : Int) (z0 : Int) (x1 : Int) (y1 : Int) (z1 : Int) (a0 : Int) (b0 : Int) (c0 : Int) (a1 : Int) (b1 : Int) (c1 : Int) (ax : Int) : Int := if joiE x0 y0 z0 x1 y1 z1 a0 b0 c0 a1 b1 c1 ax = 0 then x0 else 0
def rJoi1 (x0 : Int) (y0 : Int) (z0 : Int) (x1 : Int) (y1 : Int) (z1 : Int) (a0 : Int) (b0 : Int) (c0 : Int) (a1 : Int) (b1 : Int) (c1 : Int) (ax : Int) : Int := if joiE x0 y0 z0 x1 y1 z1 a0 b0 c0 a1 b1 c1 ax = 0 then y0 else 0
def rJoi2 (x0 : Int) (y0 : Int) (z0 : Int) (x1 : Int) (y1 : Int) (z1 : Int) (a0 : Int) (b0 : Int) (c0 : Int) (a1 : Int) (b1 : Int) (c1 : Int) (ax : Int) : Int := if joiE x0 y0 z0 x1 y1 z1 a0 b0 c0 a1 b1 c1 ax = 0 then z0 else 0
def rJoi3 (x0 : Int) (y0 : Int) (z0 : Int) (x1 : Int) (y1 : Int) (z1 : Int) (a0 : Int) (b0 : Int) (c0 : Int) (a1 : Int) (b1 : Int) (c1 : Int) (ax : Int) : Int := if joiE x0 y0 z0 x1 y1 z1 a0 b0 c0 a1 b1 c1 ax = 0 then a1 else 0
def rJoi4 (x0 : Int) (y0 : Int) (z0 : Int) (x1 : Int) (y1 : Int) (z1 : Int) (a0 : Int) (b0 : Int) (c0 : Int) (a1 : Int) (b1 : Int) (c1 : Int) (ax : Int) : Int := if joiE x0 y0 z0 x1 y1 z1 a0 b0 c0 a1 b1 c1 ax = 0 then b1 else 0
def rJoi5 (x0 : Int) (y0 : Int) (z0 : Int) (x1 : Int) (y1 : Int) (z1 : Int) (a0 : Int) (b0 : Int) (c0 : Int) (a1 : Int) (b1 : Int) (c1 : Int) (ax : Int) : Int := if joiE x0 y0 z0 x1 y1 z1 a0 b0 c0 a1 b1 c1 ax = 0 then c1 else 0
def rJoi6 (x0 : Int) (y0 : Int) (z0 : Int) (x1 : Int) (y1 : Int) (z1 : Int) (a0 : Int) (b0 : Int) (c0 : Int) (a1 : Int) (b1 : Int) (c1 : Int) (ax : Int) : Int := if joiE x0 y0 z0 x1 y1 z1 a0 b0 c0 a1 b1 c1 ax = 0 then ax else 0
def rJoi7 (x0 : Int) (y0 : Int) (z0 : Int) (x1 : Int) (y1 : Int) (z1 : Int) (a0 : Int) (b0 : Int) (c0 : Int) (a1 : Int) (b1 : Int) (c1 : Int) (ax : Int) : Int := if joiE x0 y0 z0 x1 y1 z1 a0 b0 c0 a1 b1 c1 ax = 0 then gx x1 y1 z1 ax else 0
def rJoi8 (x0 : Int) (y0 : Int) (z0 : Int) (x1 : Int) (y1 : Int) (z1 : Int) (a0 : Int) (b0 : Int) (c0 : Int) (a1 : Int) (b1 : Int) (c1 : Int) (ax : Int) : Int := if joiE x0 y0 z0 x1 y1 z1 a0 b0 c0 a1 b1 c1 ax = 0 then gx a0 b0 c0 ax - gx x1 y1 z1 ax else 0
def rJoi9 (x0 : Int) (y0 : Int) (z0 : Int) (x1 : Int) (y1 : Int) (z1 : Int) (a0 : Int) (b0 : Int) (c0 : Int) (a1 : Int) (b1 : Int) (c1 : Int) (ax : Int) : Int := joiE x0 y0 z0 x1 y1 z1 a0 b0 c0 a1 b1 c1 ax
def mst0 (l : Int) (t : Int) (k : Int) : Int := if mstE l t k = 0 then (l + k) / (t + k) else 0
def mst1 (l : Int) (t : Int) (k : Int) : Int := mstE l t k
def thk0 (l : Int) (s : Int) (k : Int) : Int := if thkE l s k = 0 then thkN l s k else 0
def thk1 (l : Int) (s : Int) (k : Int) : Int := thkE l s k
def rLen0 (n : Int) : Bool := inL n
def rKrf0 (n : Int) : Bool := inK n
def rMst0 (l : Int) (t : Int) (k : Int) : Int := (l + k) / (t + k)
def rMstP (l : Int) (t : Int) (k : Int) : Bool := inL l && inL t && inK k
def rThk0 (l : Int) (s : Int) (k : Int) : Int := if l - (s - 1) * k < 0 then 0 else (l - (s - 1) * k) / s
def rThkP (l : Int) (s : Int) (k : Int) : Bool := inL l && decide (1 ≤ s) && decide (s ≤ 1000) && inK k
def sli0 (x0 : Int) (y0 : Int) (z0 : Int) (x1 : Int) (y1 : Int) (z1 : Int) (ax : Int) (t : Int) (k : Int) : Int := cntE x0 y0 z0 x1 y1 z1 ax t k
def rBck0 (x0 : Int) (y0 : Int) (z0 : Int) (x1 : Int) (y1 : Int) (z1 : Int) : Int := chkB x0 y0 z0 x1 y1 z1
def lvol0 (x0 : Int) (y0 : Int) (z0 : Int) (x1 : Int) (y1 : Int) (z1 : Int) : Int := volE x0 y0 z0 x1 y1 z1
def lvolP (x0 : Int) (y0 : Int) (z0 : Int) (x1 : Int) (y1 : Int) (z1 : Int) : Bool := inB x0 y0 z0 x1 y1 z1
def bar'0  : Int := 0
def bar'1  : Int := 0
def bar'2  : Int := 0
def bar'3  : Int := 100
def bar'4  : Int := 10
def bar'5  : Int := 10
def rAx0 (n : Int) : Bool := inA n
def rGet0 (x : Int) (y : Int) (z : Int) (ax : Int) : Int := gx x y z ax
def end'0 (x0 : Int) (y0 : Int) (z0 : Int) (x1 : Int) (y1 : Int) (z1 : Int) (ax : Int) : Int := gx x0 y0 z0 ax
def end'1 (x0 : Int) (y0 : Int) (z0 : Int) (x1 : Int) (y1 : Int) (z1 : Int) (ax : Int) : Int := gx x1 y1 z1 ax
def end'P (x0 : Int) (y0 : Int) (z0 : Int) (x1 : Int) (y1 : Int) (z1 : Int) (ax : Int) : Bool := inA ax
def btw0 (x0 : Int) (y0 : Int) (z0 : Int) (x1 : Int) (y1 : Int) (z1 : Int) (ax : Int) (lo : Int) (hi : Int) : Int := pX x0 ax lo
def btw1 (x0 : Int) (y0 : Int) (z0 : Int) (x1 : Int) (y1 : Int) (z1 : Int) (ax : Int) (lo : Int) (hi : Int) : Int := pY y0 ax lo
def btw2 (x0 : Int) (y0 : Int) (z0 : Int) (x1 : Int) (y1 : Int) (z1 : Int) (ax : Int) (lo : Int) (hi : Int) : Int := pZ z0 ax lo
def btw3 (x0 : Int) (y0 : Int) (z0 : Int) (x1 : Int) (y1 : Int) (z1 : Int) (ax : Int) (lo : Int) (hi : Int) : Int := pX x1 ax hi
def btw4 (x0 : Int) (y0 : Int) (z0 : Int) (x1 : Int) (y1 : Int) (z1 : Int) (ax : Int) (lo : Int) (hi : Int) : Int := pY y1 ax hi
def btw5 (x0 : Int) (y0 : Int) (z0 : Int) (x1 : Int) (y1 : Int) (z1 : Int) (ax : Int) (lo : Int) (hi : Int) : Int := pZ z1 ax hi
def btwP (x0 : Int) (y0 : Int) (z0 : Int) (x1 : Int) (y1 : Int) (z1 : Int) (ax : Int) (lo : Int) (hi : Int) : Bool := inA ax
def vol0 (x0 : Int) (y0 : Int) (z0 : Int) (x1 : Int) (y1 : Int) (z1 : Int) : Int := volE x0 y0 z0 x1 y1 z1
def volP (x0 : Int) (y0 : Int) (z0 : Int) (x1 : Int) (y1 : Int) (z1 : Int) : Bool := inB x0 y0 z0 x1 y1 z1
def bck0 (x0 : Int) (y0 : Int) (z0 : Int) (x1 : Int) (y1 : Int) (z1 : Int) : Int := chkB x0 y0 z0 x1 y1 z1
def axl0 (n : Int) : Int := if inA n = true then 0 else 1
def swn0 (n : Int) : Int := if inK n = true then 0 else 6
def rPut0 (x : Int) (y : Int) (z : Int) (ax : Int) (n : Int) : Int := pX x ax n
def rPut1 (x : Int) (y : Int) (z : Int) (ax : Int) (n : Int) : Int := pY y ax n
def rPut2 (x : Int) (y : Int) (z : Int) (ax : Int) (n : Int) : Int := pZ z ax n
def lng0 (n : Int) : Int := if inL n = true then 0 else 6
def cnt0 (x0 : Int) (y0 : Int) (z0 : Int) (x1 : Int) (y1 : Int) (z1 : Int) (ax : Int) (t : Int) (k : Int) : Int := if cntE x0 y0 z0 x1 y1 z1 ax t k = 0 then cntN x0 y0 z0 x1 y1 z1 ax t k else 0
def cnt1 (x0 : Int) (y0 : Int) (z0 : Int) (x1 : Int) (y1 : Int) (z1 : Int) (ax : Int) (t : Int) (k : Int) : Int := cntE x0 y0 z0 x1 y1 z1 ax t k
def ins0 (x0 : Int) (y0 : Int) (z0 : Int) (x1 : Int) (y1 : Int) (z1 : Int) (a0 : Int) (b0 : Int) (c0 : Int) (a1 : Int) (b1 : Int) (c1 : Int) : Bool := insE x0 y0 z0 x1 y1 z1 a0 b0 c0 a1 b1 c1
def rat0 (x : Int) (y : Int) (z : Int) (ax : Int) : Int := gx x y z ax
def sds0 (x0 : Int) (y0 : Int) (z0 : Int) (x1 : Int) (y1 : Int) (z1 : Int) : Int := x0
def sds1 (x0 : Int) (y0 : Int) (z0 : Int) (x1 : Int) (y1 : Int) (z1 : Int) : Int := x1
def sds2 (x0 : Int) (y0 : Int) (z0 : Int) (x1 : Int) (y1 : Int) (z1 : Int) : Int := y0
def sds3 (x0 : Int) (y0 : Int) (z0 : Int) (x1 : Int) (y1 : Int) (z1 : Int) : Int := y1
def sds4 (x0 : Int) (y0 : Int) (z0 : Int) (x1 : Int) (y1 : Int) (z1 : Int) : Int := z0
def sds5 (x0 : Int) (y0 : Int) (z0 : Int) (x1 : Int) (y1 : Int) (z1 : Int) : Int := z1
def bin0 (n : Int) : Bool := inC n
/-- The seat's contracts. -/
def sigs : Nat → Option Sig
  | 12 => some ⟨[], [sb], none, none, none⟩
  | 13 => some ⟨[(iv 6), (iv 3)], [i1], none, none, none⟩
  | 14 => some ⟨[(iv 6), (iv 3)], [(iv 6), (iv 6), (iv 6), i1], none, none, none⟩
  | 15 => some ⟨[(iv 3)], [(iv 3)], none, none, none⟩
  | 16 => some ⟨[(iv 6), (iv 3)], [i1, i1], none, none, none⟩
  | 17 => some ⟨[(iv 6), (iv 3)], [i1], none, none, none⟩
  | 18 => some ⟨[(iv 6), (iv 3)], [(iv 6), (iv 6), (iv 6)], none, none, none⟩
  | 19 => some ⟨[(iv 6)], [i1], none, none, none⟩
  | 20 => some ⟨[(iv 6), (iv 6), i1], [(iv 6), (iv 3), i1], none, none, none⟩
  | 21 => some ⟨[(iv 6), (iv 6), i1], [(iv 6), (iv 3), i1], none, none, none⟩
  | 22 => some ⟨[i1, i1, i1], [i1, i1], none, none, none⟩
  | 23 => some ⟨[i1, i1, i1], [i1, i1], none, none, none⟩
  | 24 => some ⟨[i1], [sb], none, none, none⟩
  | 25 => some ⟨[i1], [sb], none, none, none⟩
  | 26 => some ⟨[i1, i1, i1], [i1], none, none, none⟩
  | 27 => some ⟨[i1, i1, i1], [i1], none, none, none⟩
  | 35 => some ⟨[(iv 6)], [i1], none, none, none⟩
  | 38 => some ⟨[(iv 6)], [i1], none, none, none⟩
  | 39 => some ⟨[], [(iv 6)], none, none, none⟩
  | 40 => some ⟨[i1], [sb], none, none, none⟩
  | 41 => some ⟨[(iv 3), i1], [i1], none, none, none⟩
  | 42 => some ⟨[(iv 6), i1], [i1, i1], none, none, none⟩
  | 43 => some ⟨[(iv 6), i1, i1, i1], [(iv 6)], none, none, none⟩
  | 44 => some ⟨[(iv 6)], [i1], none, none, none⟩
  | 46 => some ⟨[(iv 6)], [i1], none, none, none⟩
  | 47 => some ⟨[i1], [i1], none, none, none⟩
  | 48 => some ⟨[i1], [i1], none, none, none⟩
  | 49 => some ⟨[(iv 3), i1, i1], [(iv 3)], none, none, none⟩
  | 50 => some ⟨[i1], [i1], none, none, none⟩
  | 30 => some ⟨[(iv 6), i1, i1, i1], [i1], none, none, none⟩
  | 51 => some ⟨[(iv 6), i1, i1, i1], [i1, i1], none, none, none⟩
  | 52 => some ⟨[(iv 6), (iv 6)], [sb], none, none, none⟩
  | 54 => some ⟨[(iv 3), i1], [i1], none, none, none⟩
  | 56 => some ⟨[(iv 6)], [(iv 6)], none, none, none⟩
  | 57 => some ⟨[i1], [sb], none, none, none⟩
  | 45 => some ⟨[], [i1], some (.int .i64), none, none⟩
  | 55 => some ⟨[], [], none, some 3, none⟩
  | _ => none
def s12 : FnSem := ⟨fun _ => true, fun | [] => [.bool awk0] | _ => []⟩
def s13 : FnSem := ⟨fun _ => true, fun | [.int x0, .int y0, .int z0, .int x1, .int y1, .int z1, .int ax, .int p, .int k] => [.int (rChk0 x0 y0 z0 x1 y1 z1 ax p k)] | _ => []⟩
def s14 : FnSem := ⟨fun _ => true, fun | [.int x0, .int y0, .int z0, .int x1, .int y1, .int z1, .int ax, .int p, .int k] => [.int (spl0 x0 y0 z0 x1 y1 z1 ax p k), .int (spl1 x0 y0 z0 x1 y1 z1 ax p k), .int (spl2 x0 y0 z0 x1 y1 z1 ax p k), .int (spl3 x0 y0 z0 x1 y1 z1 ax p k), .int (spl4 x0 y0 z0 x1 y1 z1 ax p k), .int (spl5 x0 y0 z0 x1 y1 z1 ax p k), .int (spl6 x0 y0 z0 x1 y1 z1 ax p k), .int (spl7 x0 y0 z0 x1 y1 z1 ax p k), .int (spl8 x0 y0 z0 x1 y1 z1 ax p k), .int (spl9 x0 y0 z0 x1 y1 z1 ax p k), .int (spl10 x0 y0 z0 x1 y1 z1 ax p k), .int (spl11 x0 y0 z0 x1 y1 z1 ax p k), .int (spl12 x0 y0 z0 x1 y1 z1 ax p k), .int (spl13 x0 y0 z0 x1 y1 z1 ax p k), .int (spl14 x0 y0 z0 x1 y1 z1 ax p k), .int (spl15 x0 y0 z0 x1 y1 z1 ax p k), .int (spl16 x0 y0 z0 x1 y1 z1 ax p k), .int (spl17 x0 y0 z0 x1 y1 z1 ax p k), .int (spl18 x0 y0 z0 x1 y1 z1 ax p k)] | _ => []⟩
def s15 : FnSem := ⟨fun _ => true, fun | [.int ax, .int p, .int k] => [.int (our0 ax p k), .int (our1 ax p k), .int (our2 ax p k)] | _ => []⟩
def s16 : FnSem := ⟨fun _ => true, fun | [.int x0, .int y0, .int z0, .int x1, .int y1, .int z1, .int ax, .int p, .int k] => [.int (los0 x0 y0 z0 x1 y1 z1 ax p k), .int (los1 x0 y0 z0 x1 y1 z1 ax p k)] | _ => []⟩
def s17 : FnSem := ⟨fun _ => true, fun | [.int x0, .int y0, .int z0, .int x1, .int y1, .int z1, .int ax, .int p, .int k] => [.int (chk0 x0 y0 z0 x1 y1 z1 ax p k)] | _ => []⟩
def s18 : FnSem := ⟨fun | [.int x0, .int y0, .int z0, .int x1, .int y1, .int z1, .int ax, .int p, .int k] => rSplP x0 y0 z0 x1 y1 z1 ax p k | _ => true, fun | [.int x0, .int y0, .int z0, .int x1, .int y1, .int z1, .int ax, .int p, .int k] => [.int (rSpl0 x0 y0 z0 x1 y1 z1 ax p k), .int (rSpl1 x0 y0 z0 x1 y1 z1 ax p k), .int (rSpl2 x0 y0 z0 x1 y1 z1 ax p k), .int (rSpl3 x0 y0 z0 x1 y1 z1 ax p k), .int (rSpl4 x0 y0 z0 x1 y1 z1 ax p k), .int (rSpl5 x0 y0 z0 x1 y1 z1 ax p k), .int (rSpl6 x0 y0 z0 x1 y1 z1 ax p k), .int (rSpl7 x0 y0 z0 x1 y1 z1 ax p k), .int (rSpl8 x0 y0 z0 x1 y1 z1 ax p k), .int (rSpl9 x0 y0 z0 x1 y1 z1 ax p k), .int (rSpl10 x0 y0 z0 x1 y1 z1 ax p k), .int (rSpl11 x0 y0 z0 x1 y1 z1 ax p k), .int (rSpl12 x0 y0 z0 x1 y1 z1 ax p k), .int (rSpl13 x0 y0 z0 x1 y1 z1 ax p k), .int (rSpl14 x0 y0 z0 x1 y1 z1 ax p k), .int (rSpl15 x0 y0 z0 x1 y1 z1 ax p k), .int (rSpl16 x0 y0 z0 x1 y1 z1 ax p k), .int (rSpl17 x0 y0 z0 x1 y1 z1 ax p k)] | _ => []⟩
def s19 : FnSem := ⟨fun | [.int x0, .int y0, .int z0, .int x1, .int y1, .int z1] => rVolP x0 y0 z0 x1 y1 z1 | _ => true, fun | [.int x0, .int y0, .int z0, .int x1, .int y1, .int z1] => [.int (rVol0 x0 y0 z0 x1 y1 z1)] | _ => []⟩
def s20 : FnSem := ⟨fun _ => true, fun | [.int x0, .int y0, .int z0, .int x1, .int y1, .int z1, .int a0, .int b0, .int c0, .int a1, .int b1, .int c1, .int ax] => [.int (joi0 x0 y0 z0 x1 y1 z1 a0 b0 c0 a1 b1 c1 ax), .int (joi1 x0 y0 z0 x1 y1 z1 a0 b0 c0 a1 b1 c1 ax), .int (joi2 x0 y0 z0 x1 y1 z1 a0 b0 c0 a1 b1 c1 ax), .int (joi3 x0 y0 z0 x1 y1 z1 a0 b0 c0 a1 b1 c1 ax), .int (joi4 x0 y0 z0 x1 y1 z1 a0 b0 c0 a1 b1 c1 ax), .int (joi5 x0 y0 z0 x1 y1 z1 a0 b0 c0 a1 b1 c1 ax), .int (joi6 x0 y0 z0 x1 y1 z1 a0 b0 c0 a1 b1 c1 ax), .int (joi7 x0 y0 z0 x1 y1 z1 a0 b0 c0 a1 b1 c1 ax), .int (joi8 x0 y0 z0 x1 y1 z1 a0 b0 c0 a1 b1 c1 ax), .int (joi9 x0 y0 z0 x1 y1 z1 a0 b0 c0 a1 b1 c1 ax)] | _ => []⟩
def s21 : FnSem := ⟨fun _ => true, fun | [.int x0, .int y0, .int z0, .int x1, .int y1, .int z1, .int a0, .int b0, .int c0, .int a1, .int b1, .int c1, .int ax] => [.int (rJoi0 x0 y0 z0 x1 y1 z1 a0 b0 c0 a1 b1 c1 ax), .int (rJoi1 x0 y0 z0 x1 y1 z1 a0 b0 c0 a1 b1 c1 ax), .int (rJoi2 x0 y0 z0 x1 y1 z1 a0 b0 c0 a1 b1 c1 ax), .int (rJoi3 x0 y0 z0 x1 y1 z1 a0 b0 c0 a1 b1 c1 ax), .int (rJoi4 x0 y0 z0 x1 y1 z1 a0 b0 c0 a1 b1 c1 ax), .int (rJoi5 x0 y0 z0 x1 y1 z1 a0 b0 c0 a1 b1 c1 ax), .int (rJoi6 x0 y0 z0 x1 y1 z1 a0 b0 c0 a1 b1 c1 ax), .int (rJoi7 x0 y0 z0 x1 y1 z1 a0 b0 c0 a1 b1 c1 ax), .int (rJoi8 x0 y0 z0 x1 y1 z1 a0 b0 c0 a1 b1 c1 ax), .int (rJoi9 x0 y0 z0 x1 y1 z1 a0 b0 c0 a1 b1 c1 ax)] | _ => []⟩
def s22 : FnSem := ⟨fun _ => true, fun | [.int l, .int t, .int k] => [.int (mst0 l t k), .int (mst1 l t k)] | _ => []⟩
def s23 : FnSem := ⟨fun _ => true, fun | [.int l, .int s, .int k] => [.int (thk0 l s k), .int (thk1 l s k)] | _ => []⟩
def s24 : FnSem := ⟨fun _ => true, fun | [.int n] => [.bool (rLen0 n)] | _ => []⟩
def s25 : FnSem := ⟨fun _ => true, fun | [.int n] => [.bool (rKrf0 n)] | _ => []⟩
def s26 : FnSem := ⟨fun | [.int l, .int t, .int k] => rMstP l t k | _ => true, fun | [.int l, .int t, .int k] => [.int (rMst0 l t k)] | _ => []⟩
def s27 : FnSem := ⟨fun | [.int l, .int s, .int k] => rThkP l s k | _ => true, fun | [.int l, .int s, .int k] => [.int (rThk0 l s k)] | _ => []⟩
def s35 : FnSem := ⟨fun _ => true, fun | [.int x0, .int y0, .int z0, .int x1, .int y1, .int z1] => [.int (rBck0 x0 y0 z0 x1 y1 z1)] | _ => []⟩
def s38 : FnSem := ⟨fun | [.int x0, .int y0, .int z0, .int x1, .int y1, .int z1] => lvolP x0 y0 z0 x1 y1 z1 | _ => true, fun | [.int x0, .int y0, .int z0, .int x1, .int y1, .int z1] => [.int (lvol0 x0 y0 z0 x1 y1 z1)] | _ => []⟩
def s39 : FnSem := ⟨fun _ => true, fun | [] => [.int bar'0, .int bar'1, .int bar'2, .int bar'3, .int bar'4, .int bar'5] | _ => []⟩
def s40 : FnSem := ⟨fun _ => true, fun | [.int n] => [.bool (rAx0 n)] | _ => []⟩
def s41 : FnSem := ⟨fun _ => true, fun | [.int x, .int y, .int z, .int ax] => [.int (rGet0 x y z ax)] | _ => []⟩
def s42 : FnSem := ⟨fun | [.int x0, .int y0, .int z0, .int x1, .int y1, .int z1, .int ax] => end'P x0 y0 z0 x1 y1 z1 ax | _ => true, fun | [.int x0, .int y0, .int z0, .int x1, .int y1, .int z1, .int ax] => [.int (end'0 x0 y0 z0 x1 y1 z1 ax), .int (end'1 x0 y0 z0 x1 y1 z1 ax)] | _ => []⟩
def s43 : FnSem := ⟨fun | [.int x0, .int y0, .int z0, .int x1, .int y1, .int z1, .int ax, .int lo, .int hi] => btwP x0 y0 z0 x1 y1 z1 ax lo hi | _ => true, fun | [.int x0, .int y0, .int z0, .int x1, .int y1, .int z1, .int ax, .int lo, .int hi] => [.int (btw0 x0 y0 z0 x1 y1 z1 ax lo hi), .int (btw1 x0 y0 z0 x1 y1 z1 ax lo hi), .int (btw2 x0 y0 z0 x1 y1 z1 ax lo hi), .int (btw3 x0 y0 z0 x1 y1 z1 ax lo hi), .int (btw4 x0 y0 z0 x1 y1 z1 ax lo hi), .int (btw5 x0 y0 z0 x1 y1 z1 ax lo hi)] | _ => []⟩
def s44 : FnSem := ⟨fun | [.int x0, .int y0, .int z0, .int x1, .int y1, .int z1] => volP x0 y0 z0 x1 y1 z1 | _ => true, fun | [.int x0, .int y0, .int z0, .int x1, .int y1, .int z1] => [.int (vol0 x0 y0 z0 x1 y1 z1)] | _ => []⟩
def s46 : FnSem := ⟨fun _ => true, fun | [.int x0, .int y0, .int z0, .int x1, .int y1, .int z1] => [.int (bck0 x0 y0 z0 x1 y1 z1)] | _ => []⟩
def s47 : FnSem := ⟨fun _ => true, fun | [.int n] => [.int (axl0 n)] | _ => []⟩
def s48 : FnSem := ⟨fun _ => true, fun | [.int n] => [.int (swn0 n)] | _ => []⟩
def s49 : FnSem := ⟨fun _ => true, fun | [.int x, .int y, .int z, .int ax, .int n] => [.int (rPut0 x y z ax n), .int (rPut1 x y z ax n), .int (rPut2 x y z ax n)] | _ => []⟩
def s50 : FnSem := ⟨fun _ => true, fun | [.int n] => [.int (lng0 n)] | _ => []⟩
def s30 : FnSem := ⟨fun _ => true, fun | [.int x0, .int y0, .int z0, .int x1, .int y1, .int z1, .int ax, .int t, .int k] => [.int (sli0 x0 y0 z0 x1 y1 z1 ax t k)] | _ => []⟩
def s51 : FnSem := ⟨fun _ => true, fun | [.int x0, .int y0, .int z0, .int x1, .int y1, .int z1, .int ax, .int t, .int k] => [.int (cnt0 x0 y0 z0 x1 y1 z1 ax t k), .int (cnt1 x0 y0 z0 x1 y1 z1 ax t k)] | _ => []⟩
def s52 : FnSem := ⟨fun _ => true, fun | [.int x0, .int y0, .int z0, .int x1, .int y1, .int z1, .int a0, .int b0, .int c0, .int a1, .int b1, .int c1] => [.bool (ins0 x0 y0 z0 x1 y1 z1 a0 b0 c0 a1 b1 c1)] | _ => []⟩
def s54 : FnSem := ⟨fun _ => true, fun | [.int x, .int y, .int z, .int ax] => [.int (rat0 x y z ax)] | _ => []⟩
def s56 : FnSem := ⟨fun _ => true, fun | [.int x0, .int y0, .int z0, .int x1, .int y1, .int z1] => [.int (sds0 x0 y0 z0 x1 y1 z1), .int (sds1 x0 y0 z0 x1 y1 z1), .int (sds2 x0 y0 z0 x1 y1 z1), .int (sds3 x0 y0 z0 x1 y1 z1), .int (sds4 x0 y0 z0 x1 y1 z1), .int (sds5 x0 y0 z0 x1 y1 z1)] | _ => []⟩
def s57 : FnSem := ⟨fun _ => true, fun | [.int n] => [.bool (bin0 n)] | _ => []⟩
def s45 : FnSem := ⟨fun l => decide (l.length ≤ 1000), fun l => [.int (fst0 (l.map Sc.toInt))]⟩
def Φ : Ctx
  | 12 => s12
  | 13 => s13
  | 14 => s14
  | 15 => s15
  | 16 => s16
  | 17 => s17
  | 18 => s18
  | 19 => s19
  | 20 => s20
  | 21 => s21
  | 22 => s22
  | 23 => s23
  | 24 => s24
  | 25 => s25
  | 26 => s26
  | 27 => s27
  | 35 => s35
  | 38 => s38
  | 39 => s39
  | 40 => s40
  | 41 => s41
  | 42 => s42
  | 43 => s43
  | 44 => s44
  | 46 => s46
  | 47 => s47
  | 48 => s48
  | 49 => s49
  | 50 => s50
  | 30 => s30
  | 51 => s51
  | 52 => s52
  | 54 => s54
  | 56 => s56
  | 57 => s57
  | 45 => s45
  | _ => ⟨fun _ => true, fun _ => []⟩
/-- For the closed calls of the examples: what is known ahead. -/
def sigsA : Nat → Option Sig
  | 45 => some ⟨[], [i1], some (.int .i64), none, some 0⟩
  | 52 => some ⟨[(iv 6), (iv 6)], [sb], none, none, some 1⟩
  | n => sigs n
def ΦA : Ctx
  | 45 => ⟨fun l => decide (l.length ≤ 1000) && decide (fst0 (l.map Sc.toInt) = 0), fun _ => [.int 0]⟩
  | 52 => ⟨fun | [.int x0, .int y0, .int z0, .int x1, .int y1, .int z1, .int a0, .int b0, .int c0, .int a1, .int b1, .int c1] => ins0 x0 y0 z0 x1 y1 z1 a0 b0 c0 a1 b1 c1 | _ => false, fun _ => [.bool true]⟩
  | n => Φ n
end Go.Proofs.Ytdfcphfoccgopaa
