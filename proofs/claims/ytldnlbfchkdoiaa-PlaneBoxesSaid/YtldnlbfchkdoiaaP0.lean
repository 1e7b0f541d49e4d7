/- The plane seat: what each function answers, in plain Lean. -/
import Derived.Test.YtldnlbfchkdoiaaSx16
import Derived.Test.YtldnlbfchkdoiaaChecked
namespace Go.Proofs.Ytldnlbfchkdoiaa
open Go.Sx
set_option linter.unusedVariables false
abbrev iv (n : Nat) : Sh := .agg (List.replicate n (.int .i64))
abbrev i1 : Sh := .one (.int .i64)
abbrev b1 : Sh := .one .bool
def inC (n : Int) : Bool := decide (-1000000 ≤ n) && decide (n ≤ 1000000)
def in3 (x y z : Int) : Bool := inC x && inC y && inC z
def inF (n : Int) : Bool := decide (-1000 ≤ n) && decide (n ≤ 1000)
def inD (n : Int) : Bool := decide (-4000000000 ≤ n) && decide (n ≤ 4000000000)
def inH (a b c d : Int) : Bool := inF a && inF b && inF c && inD d
def inB (x0 y0 z0 x1 y1 z1 : Int) : Bool := in3 x0 y0 z0 && in3 x1 y1 z1
def k3 (x y z : Int) : Int := ((Nat.gcd (Nat.gcd x.natAbs y.natAbs) z.natAbs : Nat) : Int)
/-- The error of a half-space. -/
def chkH (a b c d : Int) : Int := if inH a b c d = true then (if a = 0 ∧ b = 0 ∧ c = 0 then 1 else 0) else 6
/-- The error of a box. -/
def chkB (x0 y0 z0 x1 y1 z1 : Int) : Int := if inB x0 y0 z0 x1 y1 z1 = true then (if x0 < x1 ∧ y0 < y1 ∧ z0 < z1 then 0 else 1) else 6
def chk2 (a b c d x0 y0 z0 x1 y1 z1 : Int) : Int := if chkH a b c d = 0 then chkB x0 y0 z0 x1 y1 z1 else chkH a b c d
def chk4 (a b c d e f g h : Int) : Int := if chkH a b c d = 0 then chkH e f g h else chkH a b c d
def valE (a b c d x y z : Int) : Int := a * x + b * y + c * z - d
def loE (a b c d x0 y0 z0 x1 y1 z1 : Int) : Int := mnI (a * x0) (a * x1) + mnI (b * y0) (b * y1) + mnI (c * z0) (c * z1) - d
def hiE (a b c d x0 y0 z0 x1 y1 z1 : Int) : Int := mxI (a * x0) (a * x1) + mxI (b * y0) (b * y1) + mxI (c * z0) (c * z1) - d
def sidE (lo hi : Int) : Int := if hi ≤ 0 then 1 else if 0 ≤ lo then 2 else 3
def lst (n lo hi : Int) : Int := if 0 < n then n * (lo + 1) else n * (hi - 1)
def spn0 (n lo hi rest : Int) : Int := if n < 0 then mnI hi (mxI lo (-(rest / (-n)))) else lo
def spn1 (n lo hi rest : Int) : Int := if 0 < n then mxI lo (mnI hi (rest / n)) else hi
def noHull (a b c d x0 y0 z0 x1 y1 z1 : Int) : Prop := d < lst a x0 x1 + lst b y0 y1 + lst c z0 z1
instance (a b c d x0 y0 z0 x1 y1 z1 : Int) : Decidable (noHull a b c d x0 y0 z0 x1 y1 z1) := inferInstanceAs (Decidable (_ < _))
def slp (a b c dir : Int) : Int := if dir = 0 then a else if dir = 1 then -a else if dir = 2 then b else if dir = 3 then -b else if dir = 4 then c else -c
def dptErr (a b c d x0 y0 z0 x1 y1 z1 dir most : Int) : Int :=
  if chk2 a b c d x0 y0 z0 x1 y1 z1 = 0 then (if 0 ≤ dir ∧ dir ≤ 5 ∧ 0 ≤ most ∧ most ≤ 1000000 then (if hiE a b c d x0 y0 z0 x1 y1 z1 ≤ 0 then 0 else 8) else 6) else chk2 a b c d x0 y0 z0 x1 y1 z1
def dptE (a b c d x0 y0 z0 x1 y1 z1 dir most : Int) : Int :=
  if slp a b c dir ≤ 0 then most else mnI most ((-hiE a b c d x0 y0 z0 x1 y1 z1) / slp a b c dir)


def awk0  : Bool := true
def vlu0 (a : Int) (b : Int) (c : Int) (d : Int) (x : Int) (y : Int) (z : Int) : Int := if chkH a b c d = 0 ∧ in3 x y z = true then valE a b c d x y z else 0
def vlu1 (a : Int) (b : Int) (c : Int) (d : Int) (x : Int) (y : Int) (z : Int) : Int := if chkH a b c d = 0 then (if in3 x y z = true then 0 else 6) else chkH a b c d
def chk0 (a : Int) (b : Int) (c : Int) (d : Int) : Int := chkH a b c d
def rChk0 (a : Int) (b : Int) (c : Int) (d : Int) : Int := chkH a b c d
def rIn0 (x : Int) (y : Int) (z : Int) : Bool := in3 x y z
def rVal0 (a : Int) (b : Int) (c : Int) (d : Int) (x : Int) (y : Int) (z : Int) : Int := valE a b c d x y z
def rValP (a : Int) (b : Int) (c : Int) (d : Int) (x : Int) (y : Int) (z : Int) : Bool := inH a b c d && in3 x y z
def ext0 (a : Int) (b : Int) (c : Int) (d : Int) (x0 : Int) (y0 : Int) (z0 : Int) (x1 : Int) (y1 : Int) (z1 : Int) : Int := if chk2 a b c d x0 y0 z0 x1 y1 z1 = 0 then loE a b c d x0 y0 z0 x1 y1 z1 else 0
def ext1 (a : Int) (b : Int) (c : Int) (d : Int) (x0 : Int) (y0 : Int) (z0 : Int) (x1 : Int) (y1 : Int) (z1 : Int) : Int := if chk2 a b c d x0 y0 z0 x1 y1 z1 = 0 then hiE a b c d x0 y0 z0 x1 y1 z1 else 0
def ext2 (a : Int) (b : Int) (c : Int) (d : Int) (x0 : Int) (y0 : Int) (z0 : Int) (x1 : Int) (y1 : Int) (z1 : Int) : Int := chk2 a b c d x0 y0 z0 x1 y1 z1
def sid0 (a : Int) (b : Int) (c : Int) (d : Int) (x0 : Int) (y0 : Int) (z0 : Int) (x1 : Int) (y1 : Int) (z1 : Int) : Int := if chk2 a b c d x0 y0 z0 x1 y1 z1 = 0 then sidE (loE a b c d x0 y0 z0 x1 y1 z1) (hiE a b c d x0 y0 z0 x1 y1 z1) else 0
def sid1 (a : Int) (b : Int) (c : Int) (d : Int) (x0 : Int) (y0 : Int) (z0 : Int) (x1 : Int) (y1 : Int) (z1 : Int) : Int := chk2 a b c d x0 y0 z0 x1 y1 z1
def rVld0 (a : Int) (b : Int) (c : Int) (d : Int) (x0 : Int) (y0 : Int) (z0 : Int) (x1 : Int) (y1 : Int) (z1 : Int) : Int := chk2 a b c d x0 y0 z0 x1 y1 z1
def rExt0 (a : Int) (b : Int) (c : Int) (d : Int) (x0 : Int) (y0 : Int) (z0 : Int) (x1 : Int) (y1 : Int) (z1 : Int) : Int := loE a b c d x0 y0 z0 x1 y1 z1
def rExt1 (a : Int) (b : Int) (c : Int) (d : Int) (x0 : Int) (y0 : Int) (z0 : Int) (x1 : Int) (y1 : Int) (z1 : Int) : Int := hiE a b c d x0 y0 z0 x1 y1 z1
def rExtP (a : Int) (b : Int) (c : Int) (d : Int) (x0 : Int) (y0 : Int) (z0 : Int) (x1 : Int) (y1 : Int) (z1 : Int) : Bool := inH a b c d && inB x0 y0 z0 x1 y1 z1
def rSid0 (a : Int) (b : Int) (c : Int) (d : Int) (x0 : Int) (y0 : Int) (z0 : Int) (x1 : Int) (y1 : Int) (z1 : Int) : Int := sidE (loE a b c d x0 y0 z0 x1 y1 z1) (hiE a b c d x0 y0 z0 x1 y1 z1)
def rSidP (a : Int) (b : Int) (c : Int) (d : Int) (x0 : Int) (y0 : Int) (z0 : Int) (x1 : Int) (y1 : Int) (z1 : Int) : Bool := inH a b c d && inB x0 y0 z0 x1 y1 z1
def hul0 (a : Int) (b : Int) (c : Int) (d : Int) (x0 : Int) (y0 : Int) (z0 : Int) (x1 : Int) (y1 : Int) (z1 : Int) : Int := if chk2 a b c d x0 y0 z0 x1 y1 z1 = 0 ∧ ¬ noHull a b c d x0 y0 z0 x1 y1 z1 then spn0 a x0 x1 (d - lst b y0 y1 - lst c z0 z1) else 0
def hul1 (a : Int) (b : Int) (c : Int) (d : Int) (x0 : Int) (y0 : Int) (z0 : Int) (x1 : Int) (y1 : Int) (z1 : Int) : Int := if chk2 a b c d x0 y0 z0 x1 y1 z1 = 0 ∧ ¬ noHull a b c d x0 y0 z0 x1 y1 z1 then spn0 b y0 y1 (d - lst a x0 x1 - lst c z0 z1) else 0
def hul2 (a : Int) (b : Int) (c : Int) (d : Int) (x0 : Int) (y0 : Int) (z0 : Int) (x1 : Int) (y1 : Int) (z1 : Int) : Int := if chk2 a b c d x0 y0 z0 x1 y1 z1 = 0 ∧ ¬ noHull a b c d x0 y0 z0 x1 y1 z1 then spn0 c z0 z1 (d - lst a x0 x1 - lst b y0 y1) else 0
def hul3 (a : Int) (b : Int) (c : Int) (d : Int) (x0 : Int) (y0 : Int) (z0 : Int) (x1 : Int) (y1 : Int) (z1 : Int) : Int := if chk2 a b c d x0 y0 z0 x1 y1 z1 = 0 ∧ ¬ noHull a b c d x0 y0 z0 x1 y1 z1 then spn1 a x0 x1 (d - lst b y0 y1 - lst c z0 z1) else 0
def hul4 (a : Int) (b : Int) (c : Int) (d : Int) (x0 : Int) (y0 : Int) (z0 : Int) (x1 : Int) (y1 : Int) (z1 : Int) : Int := if chk2 a b c d x0 y0 z0 x1 y1 z1 = 0 ∧ ¬ noHull a b c d x0 y0 z0 x1 y1 z1 then spn1 b y0 y1 (d - lst a x0 x1 - lst c z0 z1) else 0
def hul5 (a : Int) (b : Int) (c : Int) (d : Int) (x0 : Int) (y0 : Int) (z0 : Int) (x1 : Int) (y1 : Int) (z1 : Int) : Int := if chk2 a b c d x0 y0 z0 x1 y1 z1 = 0 ∧ ¬ noHull a b c d x0 y0 z0 x1 y1 z1 then spn1 c z0 z1 (d - lst a x0 x1 - lst b y0 y1) else 0
def hul6 (a : Int) (b : Int) (c : Int) (d : Int) (x0 : Int) (y0 : Int) (z0 : Int) (x1 : Int) (y1 : Int) (z1 : Int) : Int := if chk2 a b c d x0 y0 z0 x1 y1 z1 = 0 then (if noHull a b c d x0 y0 z0 x1 y1 z1 then 9 else 0) else chk2 a b c d x0 y0 z0 x1 y1 z1
def rHul0 (a : Int) (b : Int) (c : Int) (d : Int) (x0 : Int) (y0 : Int) (z0 : Int) (x1 : Int) (y1 : Int) (z1 : Int) : Int := if noHull a b c d x0 y0 z0 x1 y1 z1 then 0 else spn0 a x0 x1 (d - lst b y0 y1 - lst c z0 z1)
def rHul1 (a : Int) (b : Int) (c : Int) (d : Int) (x0 : Int) (y0 : Int) (z0 : Int) (x1 : Int) (y1 : Int) (z1 : Int) : Int := if noHull a b c d x0 y0 z0 x1 y1 z1 then 0 else spn0 b y0 y1 (d - lst a x0 x1 - lst c z0 z1)
def rHul2 (a : Int) (b : Int) (c : Int) (d : Int) (x0 : Int) (y0 : Int) (z0 : Int) (x1 : Int) (y1 : Int) (z1 : Int) : Int := if noHull a b c d x0 y0 z0 x1 y1 z1 then 0 else spn0 c z0 z1 (d - lst a x0 x1 - lst b y0 y1)
def rHul3 (a : Int) (b : Int) (c : Int) (d : Int) (x0 : Int) (y0 : Int) (z0 : Int) (x1 : Int) (y1 : Int) (z1 : Int) : Int := if noHull a b c d x0 y0 z0 x1 y1 z1 then 0 else spn1 a x0 x1 (d - lst b y0 y1 - lst c z0 z1)
def rHul4 (a : Int) (b : Int) (c : Int) (d : Int) (x0 : Int) (y0 : Int) (z0 : Int) (x1 : Int) (y1 : Int) (z1 : Int) : Int := if noHull a b c d x0 y0 z0 x1 y1 z1 then 0 else spn1 b y0 y1 (d - lst a x0 x1 - lst c z0 z1)
def rHul5 (a : Int) (b : Int) (c : Int) (d : Int) (x0 : Int) (y0 : Int) (z0 : Int) (x1 : Int) (y1 : Int) (z1 : Int) : Int := if noHull a b c d x0 y0 z0 x1 y1 z1 then 0 else spn1 c z0 z1 (d - lst a x0 x1 - lst b y0 y1)
def rHul6 (a : Int) (b : Int) (c : Int) (d : Int) (x0 : Int) (y0 : Int) (z0 : Int) (x1 : Int) (y1 : Int) (z1 : Int) : Bool := decide (¬ noHull a b c d x0 y0 z0 x1 y1 z1)
def rHulP (a : Int) (b : Int) (c : Int) (d : Int) (x0 : Int) (y0 : Int) (z0 : Int) (x1 : Int) (y1 : Int) (z1 : Int) : Bool := inH a b c d && inB x0 y0 z0 x1 y1 z1
def dpt0 (a : Int) (b : Int) (c : Int) (d : Int) (x0 : Int) (y0 : Int) (z0 : Int) (x1 : Int) (y1 : Int) (z1 : Int) (dir : Int) (most : Int) : Int := if dptErr a b c d x0 y0 z0 x1 y1 z1 dir most = 0 then dptE a b c d x0 y0 z0 x1 y1 z1 dir most else 0
def dpt1 (a : Int) (b : Int) (c : Int) (d : Int) (x0 : Int) (y0 : Int) (z0 : Int) (x1 : Int) (y1 : Int) (z1 : Int) (dir : Int) (most : Int) : Int := dptErr a b c d x0 y0 z0 x1 y1 z1 dir most
def rDpt0 (a : Int) (b : Int) (c : Int) (d : Int) (x0 : Int) (y0 : Int) (z0 : Int) (x1 : Int) (y1 : Int) (z1 : Int) (dir : Int) (most : Int) : Int := dptE a b c d x0 y0 z0 x1 y1 z1 dir most
def rDptP (a : Int) (b : Int) (c : Int) (d : Int) (x0 : Int) (y0 : Int) (z0 : Int) (x1 : Int) (y1 : Int) (z1 : Int) (dir : Int) (most : Int) : Bool := inH a b c d && inB x0 y0 z0 x1 y1 z1 && decide (0 ≤ dir) && decide (dir ≤ 5) && decide (hiE a b c d x0 y0 z0 x1 y1 z1 ≤ 0)
def mvd0 (x0 : Int) (y0 : Int) (z0 : Int) (x1 : Int) (y1 : Int) (z1 : Int) (dir : Int) (by' : Int) : Int := x0 + (if dir = 0 then by' else if dir = 1 then -by' else 0)
def mvd1 (x0 : Int) (y0 : Int) (z0 : Int) (x1 : Int) (y1 : Int) (z1 : Int) (dir : Int) (by' : Int) : Int := y0 + (if dir = 2 then by' else if dir = 3 then -by' else 0)
def mvd2 (x0 : Int) (y0 : Int) (z0 : Int) (x1 : Int) (y1 : Int) (z1 : Int) (dir : Int) (by' : Int) : Int := z0 + (if dir = 4 then by' else if dir = 5 then -by' else 0)
def mvd3 (x0 : Int) (y0 : Int) (z0 : Int) (x1 : Int) (y1 : Int) (z1 : Int) (dir : Int) (by' : Int) : Int := x1 + (if dir = 0 then by' else if dir = 1 then -by' else 0)
def mvd4 (x0 : Int) (y0 : Int) (z0 : Int) (x1 : Int) (y1 : Int) (z1 : Int) (dir : Int) (by' : Int) : Int := y1 + (if dir = 2 then by' else if dir = 3 then -by' else 0)
def mvd5 (x0 : Int) (y0 : Int) (z0 : Int) (x1 : Int) (y1 : Int) (z1 : Int) (dir : Int) (by' : Int) : Int := z1 + (if dir = 4 then by' else if dir = 5 then -by' else 0)
def mvdP (x0 : Int) (y0 : Int) (z0 : Int) (x1 : Int) (y1 : Int) (z1 : Int) (dir : Int) (by' : Int) : Bool := inB x0 y0 z0 x1 y1 z1 && decide (0 ≤ dir) && decide (dir ≤ 5) && decide (0 ≤ by') && decide (by' ≤ 1000001)
def nrm0 (a : Int) (b : Int) (c : Int) (d : Int) : Int := if chkH a b c d = 0 then a.tdiv (k3 a b c) else 0
def nrm1 (a : Int) (b : Int) (c : Int) (d : Int) : Int := if chkH a b c d = 0 then b.tdiv (k3 a b c) else 0
def nrm2 (a : Int) (b : Int) (c : Int) (d : Int) : Int := if chkH a b c d = 0 then c.tdiv (k3 a b c) else 0
def nrm3 (a : Int) (b : Int) (c : Int) (d : Int) : Int := if chkH a b c d = 0 then d / k3 a b c else 0
def nrm4 (a : Int) (b : Int) (c : Int) (d : Int) : Int := chkH a b c d
def eql0 (a : Int) (b : Int) (c : Int) (d : Int) (e : Int) (f : Int) (g : Int) (h : Int) : Bool := decide (chk4 a b c d e f g h = 0) && decide (a.tdiv (k3 a b c) = e.tdiv (k3 e f g) ∧ b.tdiv (k3 a b c) = f.tdiv (k3 e f g) ∧ c.tdiv (k3 a b c) = g.tdiv (k3 e f g) ∧ d / k3 a b c = h / k3 e f g)
def eql1 (a : Int) (b : Int) (c : Int) (d : Int) (e : Int) (f : Int) (g : Int) (h : Int) : Int := chk4 a b c d e f g h
def wth0 (a : Int) (b : Int) (c : Int) (d : Int) (e : Int) (f : Int) (g : Int) (h : Int) : Bool := decide (chk4 a b c d e f g h = 0) && decide (a.tdiv (k3 a b c) = e.tdiv (k3 e f g) ∧ b.tdiv (k3 a b c) = f.tdiv (k3 e f g) ∧ c.tdiv (k3 a b c) = g.tdiv (k3 e f g) ∧ d / k3 a b c ≤ h / k3 e f g)
def wth1 (a : Int) (b : Int) (c : Int) (d : Int) (e : Int) (f : Int) (g : Int) (h : Int) : Int := chk4 a b c d e f g h
def rNrm0 (a : Int) (b : Int) (c : Int) (d : Int) : Int := a.tdiv (k3 a b c)
def rNrm1 (a : Int) (b : Int) (c : Int) (d : Int) : Int := b.tdiv (k3 a b c)
def rNrm2 (a : Int) (b : Int) (c : Int) (d : Int) : Int := c.tdiv (k3 a b c)
def rNrm3 (a : Int) (b : Int) (c : Int) (d : Int) : Int := d / k3 a b c
def rNrmP (a : Int) (b : Int) (c : Int) (d : Int) : Bool := decide (chkH a b c d = 0)
def rWth0 (a : Int) (b : Int) (c : Int) (d : Int) (e : Int) (f : Int) (g : Int) (h : Int) : Bool := decide (a.tdiv (k3 a b c) = e.tdiv (k3 e f g) ∧ b.tdiv (k3 a b c) = f.tdiv (k3 e f g) ∧ c.tdiv (k3 a b c) = g.tdiv (k3 e f g) ∧ d / k3 a b c ≤ h / k3 e f g)
def rWthP (a : Int) (b : Int) (c : Int) (d : Int) (e : Int) (f : Int) (g : Int) (h : Int) : Bool := decide (chkH a b c d = 0) && decide (chkH e f g h = 0)
def vck0 (x : Int) (y : Int) (z : Int) : Int := if in3 x y z = true then 0 else 6
def prt0 (x : Int) (y : Int) (z : Int) : Int := x
def prt1 (x : Int) (y : Int) (z : Int) : Int := y
def prt2 (x : Int) (y : Int) (z : Int) : Int := z
def fct0 (a : Int) (b : Int) (c : Int) (d : Int) : Int := a
def fct1 (a : Int) (b : Int) (c : Int) (d : Int) : Int := b
def fct2 (a : Int) (b : Int) (c : Int) (d : Int) : Int := c
def rfc0 (n : Int) : Bool := inF n
def rin0 (n : Int) : Bool := inC n
def ck20 (a : Int) (b : Int) (c : Int) (d : Int) (x0 : Int) (y0 : Int) (z0 : Int) (x1 : Int) (y1 : Int) (z1 : Int) : Int := chk2 a b c d x0 y0 z0 x1 y1 z1
def exs0 (a : Int) (b : Int) (c : Int) (d : Int) (x0 : Int) (y0 : Int) (z0 : Int) (x1 : Int) (y1 : Int) (z1 : Int) : Int := loE a b c d x0 y0 z0 x1 y1 z1
def exs1 (a : Int) (b : Int) (c : Int) (d : Int) (x0 : Int) (y0 : Int) (z0 : Int) (x1 : Int) (y1 : Int) (z1 : Int) : Int := hiE a b c d x0 y0 z0 x1 y1 z1
def exsP (a : Int) (b : Int) (c : Int) (d : Int) (x0 : Int) (y0 : Int) (z0 : Int) (x1 : Int) (y1 : Int) (z1 : Int) : Bool := inH a b c d && inB x0 y0 z0 x1 y1 z1
def rBck0 (x0 : Int) (y0 : Int) (z0 : Int) (x1 : Int) (y1 : Int) (z1 : Int) : Int := chkB x0 y0 z0 x1 y1 z1
def flr0 (a : Int) (b : Int) : Int := a / b
def flrP (a : Int) (b : Int) : Bool := decide (0 < b) && decide (b ≤ 1000) && decide (-100000000000 ≤ a) && decide (a ≤ 100000000000)
def rlst0 (n : Int) (lo : Int) (hi : Int) : Int := lst n lo hi
def rlstP (n : Int) (lo : Int) (hi : Int) : Bool := inF n && inC lo && inC hi
def rspn0 (n : Int) (lo : Int) (hi : Int) (rest : Int) : Int := spn0 n lo hi rest
def rspn1 (n : Int) (lo : Int) (hi : Int) (rest : Int) : Int := spn1 n lo hi rest
def rspnP (n : Int) (lo : Int) (hi : Int) (rest : Int) : Bool := inF n && inC lo && inC hi && decide (-100000000000 ≤ rest) && decide (rest ≤ 100000000000)
def rslp0 (a : Int) (b : Int) (c : Int) (d : Int) (dir : Int) : Int := slp a b c dir
def rslpP (a : Int) (b : Int) (c : Int) (d : Int) (dir : Int) : Bool := inH a b c d && decide (0 ≤ dir) && decide (dir ≤ 5)
def nml0 (a : Int) (b : Int) (c : Int) (d : Int) : Int := a.tdiv (k3 a b c)
def nml1 (a : Int) (b : Int) (c : Int) (d : Int) : Int := b.tdiv (k3 a b c)
def nml2 (a : Int) (b : Int) (c : Int) (d : Int) : Int := c.tdiv (k3 a b c)
def nml3 (a : Int) (b : Int) (c : Int) (d : Int) : Int := d / k3 a b c
def nmlP (a : Int) (b : Int) (c : Int) (d : Int) : Bool := decide (chkH a b c d = 0)
def bth0 (a : Int) (b : Int) (c : Int) (d : Int) (e : Int) (f : Int) (g : Int) (h : Int) : Int := if chkH a b c d = 0 then a.tdiv (k3 a b c) else 0
def bth1 (a : Int) (b : Int) (c : Int) (d : Int) (e : Int) (f : Int) (g : Int) (h : Int) : Int := if chkH a b c d = 0 then b.tdiv (k3 a b c) else 0
def bth2 (a : Int) (b : Int) (c : Int) (d : Int) (e : Int) (f : Int) (g : Int) (h : Int) : Int := if chkH a b c d = 0 then c.tdiv (k3 a b c) else 0
def bth3 (a : Int) (b : Int) (c : Int) (d : Int) (e : Int) (f : Int) (g : Int) (h : Int) : Int := if chkH a b c d = 0 then d / k3 a b c else 0
def bth4 (a : Int) (b : Int) (c : Int) (d : Int) (e : Int) (f : Int) (g : Int) (h : Int) : Int := if chk4 a b c d e f g h = 0 then e.tdiv (k3 e f g) else 0
def bth5 (a : Int) (b : Int) (c : Int) (d : Int) (e : Int) (f : Int) (g : Int) (h : Int) : Int := if chk4 a b c d e f g h = 0 then f.tdiv (k3 e f g) else 0
def bth6 (a : Int) (b : Int) (c : Int) (d : Int) (e : Int) (f : Int) (g : Int) (h : Int) : Int := if chk4 a b c d e f g h = 0 then g.tdiv (k3 e f g) else 0
def bth7 (a : Int) (b : Int) (c : Int) (d : Int) (e : Int) (f : Int) (g : Int) (h : Int) : Int := if chk4 a b c d e f g h = 0 then h / k3 e f g else 0
def bth8 (a : Int) (b : Int) (c : Int) (d : Int) (e : Int) (f : Int) (g : Int) (h : Int) : Int := chk4 a b c d e f g h
def dvs0 (a : Int) (b : Int) : Int := ((Nat.gcd a.natAbs b.natAbs : Nat) : Int)
def dvsP (a : Int) (b : Int) : Bool := decide (0 ≤ a) && decide (0 ≤ b)
def abl0 (n : Int) : Int := if n < 0 then -n else n
def ablP (n : Int) : Bool := inC n
def rflr0 (a : Int) (b : Int) : Int := a / b
def rflrP (a : Int) (b : Int) : Bool := decide (0 < b) && decide (b ≤ 1000) && decide (-100000000000 ≤ a) && decide (a ≤ 100000000000)
def bck0 (x0 : Int) (y0 : Int) (z0 : Int) (x1 : Int) (y1 : Int) (z1 : Int) : Int := chkB x0 y0 z0 x1 y1 z1
def rat0 (x : Int) (y : Int) (z : Int) (ax : Int) : Int := if ax = 0 then x else if ax = 1 then y else z
def sds0 (x0 : Int) (y0 : Int) (z0 : Int) (x1 : Int) (y1 : Int) (z1 : Int) : Int := x0
def sds1 (x0 : Int) (y0 : Int) (z0 : Int) (x1 : Int) (y1 : Int) (z1 : Int) : Int := x1
def sds2 (x0 : Int) (y0 : Int) (z0 : Int) (x1 : Int) (y1 : Int) (z1 : Int) : Int := y0
def sds3 (x0 : Int) (y0 : Int) (z0 : Int) (x1 : Int) (y1 : Int) (z1 : Int) : Int := y1
def sds4 (x0 : Int) (y0 : Int) (z0 : Int) (x1 : Int) (y1 : Int) (z1 : Int) : Int := z0
def sds5 (x0 : Int) (y0 : Int) (z0 : Int) (x1 : Int) (y1 : Int) (z1 : Int) : Int := z1
def bin0 (n : Int) : Bool := inC n
/-- The seat's contracts. -/
def sigs : Nat → Option Sig
  | 12 => some ⟨[], [b1]⟩
  | 13 => some ⟨[(iv 4), (iv 3)], [i1, i1]⟩
  | 14 => some ⟨[(iv 4)], [i1]⟩
  | 15 => some ⟨[(iv 4)], [i1]⟩
  | 16 => some ⟨[(iv 3)], [b1]⟩
  | 17 => some ⟨[(iv 4), (iv 3)], [i1]⟩
  | 18 => some ⟨[(iv 4), (iv 6)], [i1, i1, i1]⟩
  | 19 => some ⟨[(iv 4), (iv 6)], [i1, i1]⟩
  | 20 => some ⟨[(iv 4), (iv 6)], [i1]⟩
  | 21 => some ⟨[(iv 4), (iv 6)], [i1, i1]⟩
  | 22 => some ⟨[(iv 4), (iv 6)], [i1]⟩
  | 23 => some ⟨[(iv 4), (iv 6)], [(iv 6), i1]⟩
  | 24 => some ⟨[(iv 4), (iv 6)], [(iv 6), b1]⟩
  | 25 => some ⟨[(iv 4), (iv 6), i1, i1], [i1, i1]⟩
  | 26 => some ⟨[(iv 4), (iv 6), i1, i1], [i1]⟩
  | 27 => some ⟨[(iv 6), i1, i1], [(iv 6)]⟩
  | 28 => some ⟨[(iv 4)], [(iv 4), i1]⟩
  | 29 => some ⟨[(iv 4), (iv 4)], [b1, i1]⟩
  | 30 => some ⟨[(iv 4), (iv 4)], [b1, i1]⟩
  | 31 => some ⟨[(iv 4)], [(iv 4)]⟩
  | 32 => some ⟨[(iv 4), (iv 4)], [b1]⟩
  | 33 => some ⟨[(iv 3)], [i1]⟩
  | 34 => some ⟨[(iv 3)], [(iv 3)]⟩
  | 35 => some ⟨[(iv 4)], [(iv 3)]⟩
  | 36 => some ⟨[i1], [b1]⟩
  | 37 => some ⟨[i1], [b1]⟩
  | 38 => some ⟨[(iv 4), (iv 6)], [i1]⟩
  | 39 => some ⟨[(iv 4), (iv 6)], [i1, i1]⟩
  | 40 => some ⟨[(iv 6)], [i1]⟩
  | 42 => some ⟨[i1, i1], [i1]⟩
  | 43 => some ⟨[i1, i1, i1], [i1]⟩
  | 44 => some ⟨[i1, i1, i1, i1], [i1, i1]⟩
  | 45 => some ⟨[(iv 4), i1], [i1]⟩
  | 46 => some ⟨[(iv 4)], [(iv 4)]⟩
  | 47 => some ⟨[(iv 4), (iv 4)], [(iv 4), (iv 4), i1]⟩
  | 48 => some ⟨[i1, i1], [i1]⟩
  | 49 => some ⟨[i1], [i1]⟩
  | 50 => some ⟨[i1, i1], [i1]⟩
  | 52 => some ⟨[(iv 6)], [i1]⟩
  | 53 => some ⟨[(iv 3), i1], [i1]⟩
  | 54 => some ⟨[(iv 6)], [(iv 6)]⟩
  | 55 => some ⟨[i1], [b1]⟩
  | _ => none
def s12 : FnSem := ⟨fun _ => true, fun | [] => [.bool awk0] | _ => []⟩
def s13 : FnSem := ⟨fun _ => true, fun | [.int a, .int b, .int c, .int d, .int x, .int y, .int z] => [.int (vlu0 a b c d x y z), .int (vlu1 a b c d x y z)] | _ => []⟩
def s14 : FnSem := ⟨fun _ => true, fun | [.int a, .int b, .int c, .int d] => [.int (chk0 a b c d)] | _ => []⟩
def s15 : FnSem := ⟨fun _ => true, fun | [.int a, .int b, .int c, .int d] => [.int (rChk0 a b c d)] | _ => []⟩
def s16 : FnSem := ⟨fun _ => true, fun | [.int x, .int y, .int z] => [.bool (rIn0 x y z)] | _ => []⟩
def s17 : FnSem := ⟨fun | [.int a, .int b, .int c, .int d, .int x, .int y, .int z] => rValP a b c d x y z | _ => true, fun | [.int a, .int b, .int c, .int d, .int x, .int y, .int z] => [.int (rVal0 a b c d x y z)] | _ => []⟩
def s18 : FnSem := ⟨fun _ => true, fun | [.int a, .int b, .int c, .int d, .int x0, .int y0, .int z0, .int x1, .int y1, .int z1] => [.int (ext0 a b c d x0 y0 z0 x1 y1 z1), .int (ext1 a b c d x0 y0 z0 x1 y1 z1), .int (ext2 a b c d x0 y0 z0 x1 y1 z1)] | _ => []⟩
def s19 : FnSem := ⟨fun _ => true, fun | [.int a, .int b, .int c, .int d, .int x0, .int y0, .int z0, .int x1, .int y1, .int z1] => [.int (sid0 a b c d x0 y0 z0 x1 y1 z1), .int (sid1 a b c d x0 y0 z0 x1 y1 z1)] | _ => []⟩
def s20 : FnSem := ⟨fun _ => true, fun | [.int a, .int b, .int c, .int d, .int x0, .int y0, .int z0, .int x1, .int y1, .int z1] => [.int (rVld0 a b c d x0 y0 z0 x1 y1 z1)] | _ => []⟩
def s21 : FnSem := ⟨fun | [.int a, .int b, .int c, .int d, .int x0, .int y0, .int z0, .int x1, .int y1, .int z1] => rExtP a b c d x0 y0 z0 x1 y1 z1 | _ => true, fun | [.int a, .int b, .int c, .int d, .int x0, .int y0, .int z0, .int x1, .int y1, .int z1] => [.int (rExt0 a b c d x0 y0 z0 x1 y1 z1), .int (rExt1 a b c d x0 y0 z0 x1 y1 z1)] | _ => []⟩
def s22 : FnSem := ⟨fun | [.int a, .int b, .int c, .int d, .int x0, .int y0, .int z0, .int x1, .int y1, .int z1] => rSidP a b c d x0 y0 z0 x1 y1 z1 | _ => true, fun | [.int a, .int b, .int c, .int d, .int x0, .int y0, .int z0, .int x1, .int y1, .int z1] => [.int (rSid0 a b c d x0 y0 z0 x1 y1 z1)] | _ => []⟩
def s23 : FnSem := ⟨fun _ => true, fun | [.int a, .int b, .int c, .int d, .int x0, .int y0, .int z0, .int x1, .int y1, .int z1] => [.int (hul0 a b c d x0 y0 z0 x1 y1 z1), .int (hul1 a b c d x0 y0 z0 x1 y1 z1), .int (hul2 a b c d x0 y0 z0 x1 y1 z1), .int (hul3 a b c d x0 y0 z0 x1 y1 z1), .int (hul4 a b c d x0 y0 z0 x1 y1 z1), .int (hul5 a b c d x0 y0 z0 x1 y1 z1), .int (hul6 a b c d x0 y0 z0 x1 y1 z1)] | _ => []⟩
def s24 : FnSem := ⟨fun | [.int a, .int b, .int c, .int d, .int x0, .int y0, .int z0, .int x1, .int y1, .int z1] => rHulP a b c d x0 y0 z0 x1 y1 z1 | _ => true, fun | [.int a, .int b, .int c, .int d, .int x0, .int y0, .int z0, .int x1, .int y1, .int z1] => [.int (rHul0 a b c d x0 y0 z0 x1 y1 z1), .int (rHul1 a b c d x0 y0 z0 x1 y1 z1), .int (rHul2 a b c d x0 y0 z0 x1 y1 z1), .int (rHul3 a b c d x0 y0 z0 x1 y1 z1), .int (rHul4 a b c d x0 y0 z0 x1 y1 z1), .int (rHul5 a b c d x0 y0 z0 x1 y1 z1), .bool (rHul6 a b c d x0 y0 z0 x1 y1 z1)] | _ => []⟩
def s25 : FnSem := ⟨fun _ => true, fun | [.int a, .int b, .int c, .int d, .int x0, .int y0, .int z0, .int x1, .int y1, .int z1, .int dir, .int most] => [.int (dpt0 a b c d x0 y0 z0 x1 y1 z1 dir most), .int (dpt1 a b c d x0 y0 z0 x1 y1 z1 dir most)] | _ => []⟩
def s26 : FnSem := ⟨fun | [.int a, .int b, .int c, .int d, .int x0, .int y0, .int z0, .int x1, .int y1, .int z1, .int dir, .int most] => rDptP a b c d x0 y0 z0 x1 y1 z1 dir most | _ => true, fun | [.int a, .int b, .int c, .int d, .int x0, .int y0, .int z0, .int x1, .int y1, .int z1, .int dir, .int most] => [.int (rDpt0 a b c d x0 y0 z0 x1 y1 z1 dir most)] | _ => []⟩
def s27 : FnSem := ⟨fun | [.int x0, .int y0, .int z0, .int x1, .int y1, .int z1, .int dir, .int by'] => mvdP x0 y0 z0 x1 y1 z1 dir by' | _ => true, fun | [.int x0, .int y0, .int z0, .int x1, .int y1, .int z1, .int dir, .int by'] => [.int (mvd0 x0 y0 z0 x1 y1 z1 dir by'), .int (mvd1 x0 y0 z0 x1 y1 z1 dir by'), .int (mvd2 x0 y0 z0 x1 y1 z1 dir by'), .int (mvd3 x0 y0 z0 x1 y1 z1 dir by'), .int (mvd4 x0 y0 z0 x1 y1 z1 dir by'), .int (mvd5 x0 y0 z0 x1 y1 z1 dir by')] | _ => []⟩
def s28 : FnSem := ⟨fun _ => true, fun | [.int a, .int b, .int c, .int d] => [.int (nrm0 a b c d), .int (nrm1 a b c d), .int (nrm2 a b c d), .int (nrm3 a b c d), .int (nrm4 a b c d)] | _ => []⟩
def s29 : FnSem := ⟨fun _ => true, fun | [.int a, .int b, .int c, .int d, .int e, .int f, .int g, .int h] => [.bool (eql0 a b c d e f g h), .int (eql1 a b c d e f g h)] | _ => []⟩
def s30 : FnSem := ⟨fun _ => true, fun | [.int a, .int b, .int c, .int d, .int e, .int f, .int g, .int h] => [.bool (wth0 a b c d e f g h), .int (wth1 a b c d e f g h)] | _ => []⟩
def s31 : FnSem := ⟨fun | [.int a, .int b, .int c, .int d] => rNrmP a b c d | _ => true, fun | [.int a, .int b, .int c, .int d] => [.int (rNrm0 a b c d), .int (rNrm1 a b c d), .int (rNrm2 a b c d), .int (rNrm3 a b c d)] | _ => []⟩
def s32 : FnSem := ⟨fun | [.int a, .int b, .int c, .int d, .int e, .int f, .int g, .int h] => rWthP a b c d e f g h | _ => true, fun | [.int a, .int b, .int c, .int d, .int e, .int f, .int g, .int h] => [.bool (rWth0 a b c d e f g h)] | _ => []⟩
def s33 : FnSem := ⟨fun _ => true, fun | [.int x, .int y, .int z] => [.int (vck0 x y z)] | _ => []⟩
def s34 : FnSem := ⟨fun _ => true, fun | [.int x, .int y, .int z] => [.int (prt0 x y z), .int (prt1 x y z), .int (prt2 x y z)] | _ => []⟩
def s35 : FnSem := ⟨fun _ => true, fun | [.int a, .int b, .int c, .int d] => [.int (fct0 a b c d), .int (fct1 a b c d), .int (fct2 a b c d)] | _ => []⟩
def s36 : FnSem := ⟨fun _ => true, fun | [.int n] => [.bool (rfc0 n)] | _ => []⟩
def s37 : FnSem := ⟨fun _ => true, fun | [.int n] => [.bool (rin0 n)] | _ => []⟩
def s38 : FnSem := ⟨fun _ => true, fun | [.int a, .int b, .int c, .int d, .int x0, .int y0, .int z0, .int x1, .int y1, .int z1] => [.int (ck20 a b c d x0 y0 z0 x1 y1 z1)] | _ => []⟩
def s39 : FnSem := ⟨fun | [.int a, .int b, .int c, .int d, .int x0, .int y0, .int z0, .int x1, .int y1, .int z1] => exsP a b c d x0 y0 z0 x1 y1 z1 | _ => true, fun | [.int a, .int b, .int c, .int d, .int x0, .int y0, .int z0, .int x1, .int y1, .int z1] => [.int (exs0 a b c d x0 y0 z0 x1 y1 z1), .int (exs1 a b c d x0 y0 z0 x1 y1 z1)] | _ => []⟩
def s40 : FnSem := ⟨fun _ => true, fun | [.int x0, .int y0, .int z0, .int x1, .int y1, .int z1] => [.int (rBck0 x0 y0 z0 x1 y1 z1)] | _ => []⟩
def s42 : FnSem := ⟨fun | [.int a, .int b] => flrP a b | _ => true, fun | [.int a, .int b] => [.int (flr0 a b)] | _ => []⟩
def s43 : FnSem := ⟨fun | [.int n, .int lo, .int hi] => rlstP n lo hi | _ => true, fun | [.int n, .int lo, .int hi] => [.int (rlst0 n lo hi)] | _ => []⟩
def s44 : FnSem := ⟨fun | [.int n, .int lo, .int hi, .int rest] => rspnP n lo hi rest | _ => true, fun | [.int n, .int lo, .int hi, .int rest] => [.int (rspn0 n lo hi rest), .int (rspn1 n lo hi rest)] | _ => []⟩
def s45 : FnSem := ⟨fun | [.int a, .int b, .int c, .int d, .int dir] => rslpP a b c d dir | _ => true, fun | [.int a, .int b, .int c, .int d, .int dir] => [.int (rslp0 a b c d dir)] | _ => []⟩
def s46 : FnSem := ⟨fun | [.int a, .int b, .int c, .int d] => nmlP a b c d | _ => true, fun | [.int a, .int b, .int c, .int d] => [.int (nml0 a b c d), .int (nml1 a b c d), .int (nml2 a b c d), .int (nml3 a b c d)] | _ => []⟩
def s47 : FnSem := ⟨fun _ => true, fun | [.int a, .int b, .int c, .int d, .int e, .int f, .int g, .int h] => [.int (bth0 a b c d e f g h), .int (bth1 a b c d e f g h), .int (bth2 a b c d e f g h), .int (bth3 a b c d e f g h), .int (bth4 a b c d e f g h), .int (bth5 a b c d e f g h), .int (bth6 a b c d e f g h), .int (bth7 a b c d e f g h), .int (bth8 a b c d e f g h)] | _ => []⟩
def s48 : FnSem := ⟨fun | [.int a, .int b] => dvsP a b | _ => true, fun | [.int a, .int b] => [.int (dvs0 a b)] | _ => []⟩
def s49 : FnSem := ⟨fun | [.int n] => ablP n | _ => true, fun | [.int n] => [.int (abl0 n)] | _ => []⟩
def s50 : FnSem := ⟨fun | [.int a, .int b] => rflrP a b | _ => true, fun | [.int a, .int b] => [.int (rflr0 a b)] | _ => []⟩
def s52 : FnSem := ⟨fun _ => true, fun | [.int x0, .int y0, .int z0, .int x1, .int y1, .int z1] => [.int (bck0 x0 y0 z0 x1 y1 z1)] | _ => []⟩
def s53 : FnSem := ⟨fun _ => true, fun | [.int x, .int y, .int z, .int ax] => [.int (rat0 x y z ax)] | _ => []⟩
def s54 : FnSem := ⟨fun _ => true, fun | [.int x0, .int y0, .int z0, .int x1, .int y1, .int z1] => [.int (sds0 x0 y0 z0 x1 y1 z1), .int (sds1 x0 y0 z0 x1 y1 z1), .int (sds2 x0 y0 z0 x1 y1 z1), .int (sds3 x0 y0 z0 x1 y1 z1), .int (sds4 x0 y0 z0 x1 y1 z1), .int (sds5 x0 y0 z0 x1 y1 z1)] | _ => []⟩
def s55 : FnSem := ⟨fun _ => true, fun | [.int n] => [.bool (bin0 n)] | _ => []⟩
def Φ : Ctx
  | 12 => s12
  | 13 => s13
  | 14 => s14
  | 15 => s15
  | 16 => s16
  | 17 => s17
  | 18 => s18
  | 19 => s19
  | 20 => s20
  | 21 => s21
  | 22 => s22
  | 23 => s23
  | 24 => s24
  | 25 => s25
  | 26 => s26
  | 27 => s27
  | 28 => s28
  | 29 => s29
  | 30 => s30
  | 31 => s31
  | 32 => s32
  | 33 => s33
  | 34 => s34
  | 35 => s35
  | 36 => s36
  | 37 => s37
  | 38 => s38
  | 39 => s39
  | 40 => s40
  | 42 => s42
  | 43 => s43
  | 44 => s44
  | 45 => s45
  | 46 => s46
  | 47 => s47
  | 48 => s48
  | 49 => s49
  | 50 => s50
  | 52 => s52
  | 53 => s53
  | 54 => s54
  | 55 => s55
  | _ => ⟨fun _ => true, fun _ => []⟩
end Go.Proofs.Ytldnlbfchkdoiaa
