/- The vector seat: what each function answers, in plain Lean. -/
import Derived.Test.YtoffcodhcbgbdaaSx16
import Derived.Test.YtoffcodhcbgbdaaChecked
namespace Go.Proofs.Ytoffcodhcbgbdaa
open Go.Sx
set_option linter.unusedVariables false
abbrev iv (n : Nat) : Sh := .agg (List.replicate n (.int .i64))
abbrev i1 : Sh := .one (.int .i64)
abbrev b1 : Sh := .one .bool
def inC (n : Int) : Bool := decide (-1000000 ≤ n) && decide (n ≤ 1000000)
def in2 (x y : Int) : Bool := inC x && inC y
def in3 (x y z : Int) : Bool := inC x && inC y && inC z
def inD (n : Int) : Bool := decide (-2000000 ≤ n) && decide (n ≤ 2000000)
def in4 (x y z : Int) : Bool := inD x && inD y && inD z
def sgn (n : Int) : Int := if n < 0 then -1 else if 0 < n then 1 else 0
def k3 (x y z : Int) : Int := ((Nat.gcd (Nat.gcd x.natAbs y.natAbs) z.natAbs : Nat) : Int)
def cmp3 (ax ay az bx by' bz : Int) : Int := if ax < bx then -1 else if bx < ax then 1 else if ay < by' then -1 else if by' < ay then 1 else if az < bz then -1 else if bz < az then 1 else 0

def tur0 (ax : Int) (ay : Int) (bx : Int) (by' : Int) (cx : Int) (cy : Int) : Int := sgn (arI .sub .i64 (arI .mul .i64 (arI .sub .i64 bx ax) (arI .sub .i64 cy ay)) (arI .mul .i64 (arI .sub .i64 by' ay) (arI .sub .i64 cx ax)))
def ons0 (ax : Int) (ay : Int) (bx : Int) (by' : Int) (cx : Int) (cy : Int) : Bool := decide (tur0 ax ay bx by' cx cy = 0) && decide (mnI ax bx ≤ cx) && decide (cx ≤ mxI ax bx) && decide (mnI ay by' ≤ cy) && decide (cy ≤ mxI ay by')
def one0 (b : Bool) : Int := if b = true then 1 else 0
def cmn0 (a : Int) (b : Int) (c : Int) (d : Int) : Int := mxI 0 (mnI 2 (mnI (mxI a b) (mxI c d) - mxI (mnI a b) (mnI c d) + 1))
def cmnP (a : Int) (b : Int) (c : Int) (d : Int) : Bool := inC a && inC b && inC c && inC d
def bef0 (ax : Int) (ay : Int) (bx : Int) (by' : Int) : Bool := decide (ax < bx ∨ ax = bx ∧ ay < by')
def srt0 (ax : Int) (ay : Int) (bx : Int) (by' : Int) : Int := if decide (bx < ax ∨ bx = ax ∧ by' < ay) = true then bx else ax
def srt1 (ax : Int) (ay : Int) (bx : Int) (by' : Int) : Int := if decide (bx < ax ∨ bx = ax ∧ by' < ay) = true then by' else ay
def srt2 (ax : Int) (ay : Int) (bx : Int) (by' : Int) : Int := if decide (bx < ax ∨ bx = ax ∧ by' < ay) = true then ax else bx
def srt3 (ax : Int) (ay : Int) (bx : Int) (by' : Int) : Int := if decide (bx < ax ∨ bx = ax ∧ by' < ay) = true then ay else by'
def cmpI10 (a : Int) (b : Int) : Int := if a < b then -1 else if b < a then 1 else 0
def iteB (b : Bool) : Int := if b = true then 1 else 0
def meetS (ax ay bx by' cx cy dx dy : Int) : Int :=
  if ax = bx ∧ ay = by' then one0 (ons0 cx cy dx dy ax ay) else
  if cx = dx ∧ cy = dy then one0 (ons0 ax ay bx by' cx cy) else
  if tur0 ax ay bx by' cx cy = 0 ∧ tur0 ax ay bx by' dx dy = 0 then
    (if ax = bx then cmn0 ay by' cy dy else cmn0 ax bx cx dx)
  else if arI .mul .i64 (tur0 ax ay bx by' cx cy) (tur0 ax ay bx by' dx dy) ≤ 0 ∧ arI .mul .i64 (tur0 cx cy dx dy ax ay) (tur0 cx cy dx dy bx by') ≤ 0 then 1 else 0
def coll (ax ay bx by' cx cy dx dy : Int) : Int :=
  if (bef0 (if bef0 ax ay cx cy = true then cx else ax) (if bef0 ax ay cx cy = true then cy else ay) (if bef0 dx dy bx by' = true then dx else bx) (if bef0 dx dy bx by' = true then dy else by')) = true then 2
  else if (if bef0 ax ay cx cy = true then cx else ax) = (if bef0 dx dy bx by' = true then dx else bx) ∧ (if bef0 ax ay cx cy = true then cy else ay) = (if bef0 dx dy bx by' = true then dy else by') then 1 else 0
def rmeetS (ax ay bx by' cx cy dx dy : Int) : Int :=
  if (ax = bx ∧ ay = by') ∨ (cx = dx ∧ cy = dy) then
    (if ((ax = bx ∧ ay = by') ∧ ons0 cx cy dx dy ax ay = true) ∨ ((cx = dx ∧ cy = dy) ∧ ons0 ax ay bx by' cx cy = true) then 1 else 0) else
  if tur0 ax ay bx by' cx cy = 0 ∧ tur0 ax ay bx by' dx dy = 0 then
    coll (srt0 ax ay bx by') (srt1 ax ay bx by') (srt2 ax ay bx by') (srt3 ax ay bx by') (srt0 cx cy dx dy) (srt1 cx cy dx dy) (srt2 cx cy dx dy) (srt3 cx cy dx dy)
  else if arI .mul .i64 (tur0 ax ay bx by' cx cy) (tur0 ax ay bx by' dx dy) ≤ 0 ∧ arI .mul .i64 (tur0 cx cy dx dy ax ay) (tur0 cx cy dx dy bx by') ≤ 0 then 1 else 0

def awk0  : Bool := true
def prm0 (x : Int) (y : Int) (z : Int) : Int := if in3 x y z = true then x.tdiv (k3 x y z) else 0
def prm1 (x : Int) (y : Int) (z : Int) : Int := if in3 x y z = true then y.tdiv (k3 x y z) else 0
def prm2 (x : Int) (y : Int) (z : Int) : Int := if in3 x y z = true then z.tdiv (k3 x y z) else 0
def prm3 (x : Int) (y : Int) (z : Int) : Int := if in3 x y z = true then k3 x y z else 0
def prm4 (x : Int) (y : Int) (z : Int) : Int := if in3 x y z = true then (if k3 x y z = 0 then 1 else 0) else 6
def rIn0 (x : Int) (y : Int) (z : Int) : Bool := in3 x y z
def rPrm0 (x : Int) (y : Int) (z : Int) : Int := x.tdiv (k3 x y z)
def rPrm1 (x : Int) (y : Int) (z : Int) : Int := y.tdiv (k3 x y z)
def rPrm2 (x : Int) (y : Int) (z : Int) : Int := z.tdiv (k3 x y z)
def rPrm3 (x : Int) (y : Int) (z : Int) : Int := k3 x y z
def rPrmP (x : Int) (y : Int) (z : Int) : Bool := in3 x y z && decide (k3 x y z ≠ 0)
def tn0 (ax : Int) (ay : Int) (bx : Int) (by' : Int) (cx : Int) (cy : Int) : Int := if (in2 ax ay && in2 bx by' && in2 cx cy) = true then tur0 ax ay bx by' cx cy else 0
def tn1 (ax : Int) (ay : Int) (bx : Int) (by' : Int) (cx : Int) (cy : Int) : Int := if (in2 ax ay && in2 bx by' && in2 cx cy) = true then 0 else 6
def onn0 (ax : Int) (ay : Int) (bx : Int) (by' : Int) (cx : Int) (cy : Int) : Bool := (in2 ax ay && in2 bx by' && in2 cx cy) && ons0 ax ay bx by' cx cy
def onn1 (ax : Int) (ay : Int) (bx : Int) (by' : Int) (cx : Int) (cy : Int) : Int := if (in2 ax ay && in2 bx by' && in2 cx cy) = true then 0 else 6
def rInP0 (x : Int) (y : Int) : Bool := in2 x y
def rTn0 (ax : Int) (ay : Int) (bx : Int) (by' : Int) (cx : Int) (cy : Int) : Int := tur0 ax ay bx by' cx cy
def rOn0 (ax : Int) (ay : Int) (bx : Int) (by' : Int) (cx : Int) (cy : Int) : Bool := ons0 ax ay bx by' cx cy
def met0 (ax : Int) (ay : Int) (bx : Int) (by' : Int) (cx : Int) (cy : Int) (dx : Int) (dy : Int) : Int := if (in2 ax ay && in2 bx by' && in2 cx cy && in2 dx dy) = true then meetS ax ay bx by' cx cy dx dy else 0
def met1 (ax : Int) (ay : Int) (bx : Int) (by' : Int) (cx : Int) (cy : Int) (dx : Int) (dy : Int) : Int := if (in2 ax ay && in2 bx by' && in2 cx cy && in2 dx dy) = true then 0 else 6
def rMet0 (ax : Int) (ay : Int) (bx : Int) (by' : Int) (cx : Int) (cy : Int) (dx : Int) (dy : Int) : Int := rmeetS ax ay bx by' cx cy dx dy
def cmpV0 (ax : Int) (ay : Int) (az : Int) (bx : Int) (by' : Int) (bz : Int) : Int := cmp3 ax ay az bx by' bz
def dot0 (ax : Int) (ay : Int) (az : Int) (bx : Int) (by' : Int) (bz : Int) : Int := if (in3 ax ay az && in3 bx by' bz) = true then ax*bx+ay*by'+az*bz else 0
def dot1 (ax : Int) (ay : Int) (az : Int) (bx : Int) (by' : Int) (bz : Int) : Int := if (in3 ax ay az && in3 bx by' bz) = true then 0 else 6
def crs0 (ax : Int) (ay : Int) (az : Int) (bx : Int) (by' : Int) (bz : Int) : Int := if (in3 ax ay az && in3 bx by' bz) = true then ay*bz-az*by' else 0
def crs1 (ax : Int) (ay : Int) (az : Int) (bx : Int) (by' : Int) (bz : Int) : Int := if (in3 ax ay az && in3 bx by' bz) = true then az*bx-ax*bz else 0
def crs2 (ax : Int) (ay : Int) (az : Int) (bx : Int) (by' : Int) (bz : Int) : Int := if (in3 ax ay az && in3 bx by' bz) = true then ax*by'-ay*bx else 0
def crs3 (ax : Int) (ay : Int) (az : Int) (bx : Int) (by' : Int) (bz : Int) : Int := if (in3 ax ay az && in3 bx by' bz) = true then 0 else 6
def dst0 (ax : Int) (ay : Int) (az : Int) (bx : Int) (by' : Int) (bz : Int) : Int := if (in3 ax ay az && in3 bx by' bz) = true then (ax-bx)*(ax-bx)+(ay-by')*(ay-by')+(az-bz)*(az-bz) else 0
def dst1 (ax : Int) (ay : Int) (az : Int) (bx : Int) (by' : Int) (bz : Int) : Int := if (in3 ax ay az && in3 bx by' bz) = true then 0 else 6
def rSub0 (ax : Int) (ay : Int) (az : Int) (bx : Int) (by' : Int) (bz : Int) : Int := ax-bx
def rSub1 (ax : Int) (ay : Int) (az : Int) (bx : Int) (by' : Int) (bz : Int) : Int := ay-by'
def rSub2 (ax : Int) (ay : Int) (az : Int) (bx : Int) (by' : Int) (bz : Int) : Int := az-bz
def rSubP (ax : Int) (ay : Int) (az : Int) (bx : Int) (by' : Int) (bz : Int) : Bool := in3 ax ay az && in3 bx by' bz
def rDot0 (ax : Int) (ay : Int) (az : Int) (bx : Int) (by' : Int) (bz : Int) : Int := ax*bx+ay*by'+az*bz
def rDotP (ax : Int) (ay : Int) (az : Int) (bx : Int) (by' : Int) (bz : Int) : Bool := in4 ax ay az && in4 bx by' bz
def rCrs0 (ax : Int) (ay : Int) (az : Int) (bx : Int) (by' : Int) (bz : Int) : Int := ay*bz-az*by'
def rCrs1 (ax : Int) (ay : Int) (az : Int) (bx : Int) (by' : Int) (bz : Int) : Int := az*bx-ax*bz
def rCrs2 (ax : Int) (ay : Int) (az : Int) (bx : Int) (by' : Int) (bz : Int) : Int := ax*by'-ay*bx
def rCrsP (ax : Int) (ay : Int) (az : Int) (bx : Int) (by' : Int) (bz : Int) : Bool := in3 ax ay az && in3 bx by' bz
def add0 (ax : Int) (ay : Int) (az : Int) (bx : Int) (by' : Int) (bz : Int) : Int := if (in3 ax ay az && in3 bx by' bz && in3 (ax+bx) (ay+by') (az+bz)) = true then ax+bx else 0
def add1 (ax : Int) (ay : Int) (az : Int) (bx : Int) (by' : Int) (bz : Int) : Int := if (in3 ax ay az && in3 bx by' bz && in3 (ax+bx) (ay+by') (az+bz)) = true then ay+by' else 0
def add2 (ax : Int) (ay : Int) (az : Int) (bx : Int) (by' : Int) (bz : Int) : Int := if (in3 ax ay az && in3 bx by' bz && in3 (ax+bx) (ay+by') (az+bz)) = true then az+bz else 0
def add3 (ax : Int) (ay : Int) (az : Int) (bx : Int) (by' : Int) (bz : Int) : Int := if (in3 ax ay az && in3 bx by' bz && in3 (ax+bx) (ay+by') (az+bz)) = true then 0 else 6
def sub0 (ax : Int) (ay : Int) (az : Int) (bx : Int) (by' : Int) (bz : Int) : Int := if (in3 ax ay az && in3 bx by' bz && in3 (ax-bx) (ay-by') (az-bz)) = true then ax-bx else 0
def sub1 (ax : Int) (ay : Int) (az : Int) (bx : Int) (by' : Int) (bz : Int) : Int := if (in3 ax ay az && in3 bx by' bz && in3 (ax-bx) (ay-by') (az-bz)) = true then ay-by' else 0
def sub2 (ax : Int) (ay : Int) (az : Int) (bx : Int) (by' : Int) (bz : Int) : Int := if (in3 ax ay az && in3 bx by' bz && in3 (ax-bx) (ay-by') (az-bz)) = true then az-bz else 0
def sub3 (ax : Int) (ay : Int) (az : Int) (bx : Int) (by' : Int) (bz : Int) : Int := if (in3 ax ay az && in3 bx by' bz && in3 (ax-bx) (ay-by') (az-bz)) = true then 0 else 6
def chk0 (x : Int) (y : Int) (z : Int) : Int := if in3 x y z = true then 0 else 6
def rCmp0 (ax : Int) (ay : Int) (az : Int) (bx : Int) (by' : Int) (bz : Int) : Int := cmp3 ax ay az bx by' bz
def lsum0 (ax : Int) (ay : Int) (az : Int) (bx : Int) (by' : Int) (bz : Int) (e : Int) : Bool := if in3 ax ay az = true then decide (e = 0 ∧ bx = ax ∧ by' = ay ∧ bz = az) else decide (e = 6 ∧ bx = 0 ∧ by' = 0 ∧ bz = 0)
def rAdd0 (ax : Int) (ay : Int) (az : Int) (bx : Int) (by' : Int) (bz : Int) : Int := ax+bx
def rAdd1 (ax : Int) (ay : Int) (az : Int) (bx : Int) (by' : Int) (bz : Int) : Int := ay+by'
def rAdd2 (ax : Int) (ay : Int) (az : Int) (bx : Int) (by' : Int) (bz : Int) : Int := az+bz
def rAddP (ax : Int) (ay : Int) (az : Int) (bx : Int) (by' : Int) (bz : Int) : Bool := in3 ax ay az && in3 bx by' bz
def prt0 (x : Int) (y : Int) (z : Int) : Int := x
def prt1 (x : Int) (y : Int) (z : Int) : Int := y
def prt2 (x : Int) (y : Int) (z : Int) : Int := z
def whl0 (x : Int) (y : Int) (z : Int) : Int := x
def whl1 (x : Int) (y : Int) (z : Int) : Int := y
def whl2 (x : Int) (y : Int) (z : Int) : Int := z
def rin0 (n : Int) : Bool := inC n
def dvs0 (a : Int) (b : Int) : Int := ((Nat.gcd a.natAbs b.natAbs : Nat) : Int)
def dvsP (a : Int) (b : Int) : Bool := decide (0 ≤ a) && decide (0 ≤ b)
def abl0 (n : Int) : Int := if n < 0 then -n else n
def ablP (n : Int) : Bool := inC n
def bth0 (ax : Int) (ay : Int) (az : Int) (bx : Int) (by' : Int) (bz : Int) : Int := if (in3 ax ay az && in3 bx by' bz) = true then 0 else 6
def cmb0 (ax : Int) (ay : Int) (az : Int) (bx : Int) (by' : Int) (bz : Int) (s : Int) : Int := if (in3 ax ay az && in3 bx by' bz && in3 (ax+s*bx) (ay+s*by') (az+s*bz)) = true then ax+s*bx else 0
def cmb1 (ax : Int) (ay : Int) (az : Int) (bx : Int) (by' : Int) (bz : Int) (s : Int) : Int := if (in3 ax ay az && in3 bx by' bz && in3 (ax+s*bx) (ay+s*by') (az+s*bz)) = true then ay+s*by' else 0
def cmb2 (ax : Int) (ay : Int) (az : Int) (bx : Int) (by' : Int) (bz : Int) (s : Int) : Int := if (in3 ax ay az && in3 bx by' bz && in3 (ax+s*bx) (ay+s*by') (az+s*bz)) = true then az+s*bz else 0
def cmb3 (ax : Int) (ay : Int) (az : Int) (bx : Int) (by' : Int) (bz : Int) (s : Int) : Int := if (in3 ax ay az && in3 bx by' bz && in3 (ax+s*bx) (ay+s*by') (az+s*bz)) = true then 0 else 6
def cmbP (ax : Int) (ay : Int) (az : Int) (bx : Int) (by' : Int) (bz : Int) (s : Int) : Bool := decide (s = 1 ∨ s = -1)
def les0 (ax : Int) (ay : Int) (az : Int) (bx : Int) (by' : Int) (bz : Int) : Bool := decide (cmp3 ax ay az bx by' bz = -1)
/-- The seat's contracts. -/
def sigs : Nat → Option Sig
  | 12 => some ⟨[], [b1]⟩
  | 13 => some ⟨[(iv 3)], [(iv 3), i1, i1]⟩
  | 14 => some ⟨[(iv 3)], [b1]⟩
  | 15 => some ⟨[(iv 3)], [(iv 3), i1]⟩
  | 16 => some ⟨[(iv 2), (iv 2), (iv 2)], [i1, i1]⟩
  | 17 => some ⟨[(iv 2), (iv 2), (iv 2)], [b1, i1]⟩
  | 18 => some ⟨[(iv 2)], [b1]⟩
  | 19 => some ⟨[(iv 2), (iv 2), (iv 2)], [i1]⟩
  | 20 => some ⟨[(iv 2), (iv 2), (iv 2)], [b1]⟩
  | 21 => some ⟨[(iv 2), (iv 2), (iv 2), (iv 2)], [i1, i1]⟩
  | 22 => some ⟨[(iv 2), (iv 2), (iv 2), (iv 2)], [i1]⟩
  | 23 => some ⟨[(iv 3), (iv 3)], [i1]⟩
  | 24 => some ⟨[(iv 3), (iv 3)], [i1, i1]⟩
  | 25 => some ⟨[(iv 3), (iv 3)], [(iv 3), i1]⟩
  | 26 => some ⟨[(iv 3), (iv 3)], [i1, i1]⟩
  | 27 => some ⟨[(iv 3), (iv 3)], [(iv 3)]⟩
  | 28 => some ⟨[(iv 3), (iv 3)], [i1]⟩
  | 29 => some ⟨[(iv 3), (iv 3)], [(iv 3)]⟩
  | 30 => some ⟨[(iv 3), (iv 3)], [(iv 3), i1]⟩
  | 31 => some ⟨[(iv 3), (iv 3)], [(iv 3), i1]⟩
  | 32 => some ⟨[(iv 3)], [i1]⟩
  | 33 => some ⟨[(iv 3), (iv 3)], [i1]⟩
  | 34 => some ⟨[(iv 3), (iv 3), i1], [b1]⟩
  | 35 => some ⟨[(iv 3), (iv 3)], [(iv 3)]⟩
  | 36 => some ⟨[(iv 3)], [(iv 3)]⟩
  | 37 => some ⟨[(iv 3)], [(iv 3)]⟩
  | 38 => some ⟨[i1], [b1]⟩
  | 39 => some ⟨[i1, i1], [i1]⟩
  | 40 => some ⟨[i1], [i1]⟩
  | 42 => some ⟨[(iv 2), (iv 2), (iv 2)], [i1]⟩
  | 43 => some ⟨[(iv 2), (iv 2), (iv 2)], [b1]⟩
  | 44 => some ⟨[b1], [i1]⟩
  | 45 => some ⟨[i1, i1, i1, i1], [i1]⟩
  | 46 => some ⟨[(iv 2), (iv 2)], [(iv 2), (iv 2)]⟩
  | 47 => some ⟨[(iv 2), (iv 2)], [b1]⟩
  | 48 => some ⟨[i1, i1], [i1]⟩
  | 49 => some ⟨[(iv 3), (iv 3)], [i1]⟩
  | 50 => some ⟨[(iv 3), (iv 3), i1], [(iv 3), i1]⟩
  | 52 => some ⟨[(iv 3), (iv 3)], [b1]⟩
  | _ => none
def s12 : FnSem := ⟨fun _ => true, fun | [] => [.bool awk0] | _ => []⟩
def s13 : FnSem := ⟨fun _ => true, fun | [.int x, .int y, .int z] => [.int (prm0 x y z), .int (prm1 x y z), .int (prm2 x y z), .int (prm3 x y z), .int (prm4 x y z)] | _ => []⟩
def s14 : FnSem := ⟨fun _ => true, fun | [.int x, .int y, .int z] => [.bool (rIn0 x y z)] | _ => []⟩
def s15 : FnSem := ⟨fun | [.int x, .int y, .int z] => rPrmP x y z | _ => true, fun | [.int x, .int y, .int z] => [.int (rPrm0 x y z), .int (rPrm1 x y z), .int (rPrm2 x y z), .int (rPrm3 x y z)] | _ => []⟩
def s16 : FnSem := ⟨fun _ => true, fun | [.int ax, .int ay, .int bx, .int by', .int cx, .int cy] => [.int (tn0 ax ay bx by' cx cy), .int (tn1 ax ay bx by' cx cy)] | _ => []⟩
def s17 : FnSem := ⟨fun _ => true, fun | [.int ax, .int ay, .int bx, .int by', .int cx, .int cy] => [.bool (onn0 ax ay bx by' cx cy), .int (onn1 ax ay bx by' cx cy)] | _ => []⟩
def s18 : FnSem := ⟨fun _ => true, fun | [.int x, .int y] => [.bool (rInP0 x y)] | _ => []⟩
def s19 : FnSem := ⟨fun _ => true, fun | [.int ax, .int ay, .int bx, .int by', .int cx, .int cy] => [.int (rTn0 ax ay bx by' cx cy)] | _ => []⟩
def s20 : FnSem := ⟨fun _ => true, fun | [.int ax, .int ay, .int bx, .int by', .int cx, .int cy] => [.bool (rOn0 ax ay bx by' cx cy)] | _ => []⟩
def s21 : FnSem := ⟨fun _ => true, fun | [.int ax, .int ay, .int bx, .int by', .int cx, .int cy, .int dx, .int dy] => [.int (met0 ax ay bx by' cx cy dx dy), .int (met1 ax ay bx by' cx cy dx dy)] | _ => []⟩
def s22 : FnSem := ⟨fun _ => true, fun | [.int ax, .int ay, .int bx, .int by', .int cx, .int cy, .int dx, .int dy] => [.int (rMet0 ax ay bx by' cx cy dx dy)] | _ => []⟩
def s23 : FnSem := ⟨fun _ => true, fun | [.int ax, .int ay, .int az, .int bx, .int by', .int bz] => [.int (cmpV0 ax ay az bx by' bz)] | _ => []⟩
def s24 : FnSem := ⟨fun _ => true, fun | [.int ax, .int ay, .int az, .int bx, .int by', .int bz] => [.int (dot0 ax ay az bx by' bz), .int (dot1 ax ay az bx by' bz)] | _ => []⟩
def s25 : FnSem := ⟨fun _ => true, fun | [.int ax, .int ay, .int az, .int bx, .int by', .int bz] => [.int (crs0 ax ay az bx by' bz), .int (crs1 ax ay az bx by' bz), .int (crs2 ax ay az bx by' bz), .int (crs3 ax ay az bx by' bz)] | _ => []⟩
def s26 : FnSem := ⟨fun _ => true, fun | [.int ax, .int ay, .int az, .int bx, .int by', .int bz] => [.int (dst0 ax ay az bx by' bz), .int (dst1 ax ay az bx by' bz)] | _ => []⟩
def s27 : FnSem := ⟨fun | [.int ax, .int ay, .int az, .int bx, .int by', .int bz] => rSubP ax ay az bx by' bz | _ => true, fun | [.int ax, .int ay, .int az, .int bx, .int by', .int bz] => [.int (rSub0 ax ay az bx by' bz), .int (rSub1 ax ay az bx by' bz), .int (rSub2 ax ay az bx by' bz)] | _ => []⟩
def s28 : FnSem := ⟨fun | [.int ax, .int ay, .int az, .int bx, .int by', .int bz] => rDotP ax ay az bx by' bz | _ => true, fun | [.int ax, .int ay, .int az, .int bx, .int by', .int bz] => [.int (rDot0 ax ay az bx by' bz)] | _ => []⟩
def s29 : FnSem := ⟨fun | [.int ax, .int ay, .int az, .int bx, .int by', .int bz] => rCrsP ax ay az bx by' bz | _ => true, fun | [.int ax, .int ay, .int az, .int bx, .int by', .int bz] => [.int (rCrs0 ax ay az bx by' bz), .int (rCrs1 ax ay az bx by' bz), .int (rCrs2 ax ay az bx by' bz)] | _ => []⟩
def s30 : FnSem := ⟨fun _ => true, fun | [.int ax, .int ay, .int az, .int bx, .int by', .int bz] => [.int (add0 ax ay az bx by' bz), .int (add1 ax ay az bx by' bz), .int (add2 ax ay az bx by' bz), .int (add3 ax ay az bx by' bz)] | _ => []⟩
def s31 : FnSem := ⟨fun _ => true, fun | [.int ax, .int ay, .int az, .int bx, .int by', .int bz] => [.int (sub0 ax ay az bx by' bz), .int (sub1 ax ay az bx by' bz), .int (sub2 ax ay az bx by' bz), .int (sub3 ax ay az bx by' bz)] | _ => []⟩
def s32 : FnSem := ⟨fun _ => true, fun | [.int x, .int y, .int z] => [.int (chk0 x y z)] | _ => []⟩
def s33 : FnSem := ⟨fun _ => true, fun | [.int ax, .int ay, .int az, .int bx, .int by', .int bz] => [.int (rCmp0 ax ay az bx by' bz)] | _ => []⟩
def s34 : FnSem := ⟨fun _ => true, fun | [.int ax, .int ay, .int az, .int bx, .int by', .int bz, .int e] => [.bool (lsum0 ax ay az bx by' bz e)] | _ => []⟩
def s35 : FnSem := ⟨fun | [.int ax, .int ay, .int az, .int bx, .int by', .int bz] => rAddP ax ay az bx by' bz | _ => true, fun | [.int ax, .int ay, .int az, .int bx, .int by', .int bz] => [.int (rAdd0 ax ay az bx by' bz), .int (rAdd1 ax ay az bx by' bz), .int (rAdd2 ax ay az bx by' bz)] | _ => []⟩
def s36 : FnSem := ⟨fun _ => true, fun | [.int x, .int y, .int z] => [.int (prt0 x y z), .int (prt1 x y z), .int (prt2 x y z)] | _ => []⟩
def s37 : FnSem := ⟨fun _ => true, fun | [.int x, .int y, .int z] => [.int (whl0 x y z), .int (whl1 x y z), .int (whl2 x y z)] | _ => []⟩
def s38 : FnSem := ⟨fun _ => true, fun | [.int n] => [.bool (rin0 n)] | _ => []⟩
def s39 : FnSem := ⟨fun | [.int a, .int b] => dvsP a b | _ => true, fun | [.int a, .int b] => [.int (dvs0 a b)] | _ => []⟩
def s40 : FnSem := ⟨fun | [.int n] => ablP n | _ => true, fun | [.int n] => [.int (abl0 n)] | _ => []⟩
def s42 : FnSem := ⟨fun _ => true, fun | [.int ax, .int ay, .int bx, .int by', .int cx, .int cy] => [.int (tur0 ax ay bx by' cx cy)] | _ => []⟩
def s43 : FnSem := ⟨fun _ => true, fun | [.int ax, .int ay, .int bx, .int by', .int cx, .int cy] => [.bool (ons0 ax ay bx by' cx cy)] | _ => []⟩
def s44 : FnSem := ⟨fun _ => true, fun | [.bool b] => [.int (one0 b)] | _ => []⟩
def s45 : FnSem := ⟨fun | [.int a, .int b, .int c, .int d] => cmnP a b c d | _ => true, fun | [.int a, .int b, .int c, .int d] => [.int (cmn0 a b c d)] | _ => []⟩
def s46 : FnSem := ⟨fun _ => true, fun | [.int ax, .int ay, .int bx, .int by'] => [.int (srt0 ax ay bx by'), .int (srt1 ax ay bx by'), .int (srt2 ax ay bx by'), .int (srt3 ax ay bx by')] | _ => []⟩
def s47 : FnSem := ⟨fun _ => true, fun | [.int ax, .int ay, .int bx, .int by'] => [.bool (bef0 ax ay bx by')] | _ => []⟩
def s48 : FnSem := ⟨fun _ => true, fun | [.int a, .int b] => [.int (cmpI10 a b)] | _ => []⟩
def s49 : FnSem := ⟨fun _ => true, fun | [.int ax, .int ay, .int az, .int bx, .int by', .int bz] => [.int (bth0 ax ay az bx by' bz)] | _ => []⟩
def s50 : FnSem := ⟨fun | [.int ax, .int ay, .int az, .int bx, .int by', .int bz, .int s] => cmbP ax ay az bx by' bz s | _ => true, fun | [.int ax, .int ay, .int az, .int bx, .int by', .int bz, .int s] => [.int (cmb0 ax ay az bx by' bz s), .int (cmb1 ax ay az bx by' bz s), .int (cmb2 ax ay az bx by' bz s), .int (cmb3 ax ay az bx by' bz s)] | _ => []⟩
def s52 : FnSem := ⟨fun _ => true, fun | [.int ax, .int ay, .int az, .int bx, .int by', .int bz] => [.bool (les0 ax ay az bx by' bz)] | _ => []⟩
def Φ : Ctx
  | 12 => s12
  | 13 => s13
  | 14 => s14
  | 15 => s15
  | 16 => s16
  | 17 => s17
  | 18 => s18
  | 19 => s19
  | 20 => s20
  | 21 => s21
  | 22 => s22
  | 23 => s23
  | 24 => s24
  | 25 => s25
  | 26 => s26
  | 27 => s27
  | 28 => s28
  | 29 => s29
  | 30 => s30
  | 31 => s31
  | 32 => s32
  | 33 => s33
  | 34 => s34
  | 35 => s35
  | 36 => s36
  | 37 => s37
  | 38 => s38
  | 39 => s39
  | 40 => s40
  | 42 => s42
  | 43 => s43
  | 44 => s44
  | 45 => s45
  | 46 => s46
  | 47 => s47
  | 48 => s48
  | 49 => s49
  | 50 => s50
  | 52 => s52
  | _ => ⟨fun _ => true, fun _ => []⟩
end Go.Proofs.Ytoffcodhcbgbdaa
