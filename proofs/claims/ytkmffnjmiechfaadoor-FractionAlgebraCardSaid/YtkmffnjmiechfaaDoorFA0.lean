/- The fraction seat: what is known of the sums and products of three fractions, case by case. -/
import Derived.Test.YtkmffnjmiechfaaDoorFF0
import Derived.Test.YtkmffnjmiechfaaDoorFX
namespace Go.Proofs.YtkmffnjmiechfaaDoor
open Go.Sx
set_option maxRecDepth 100000
def q (f : Nat) (x : List E) (i : Nat) : E := .app f (listE (x.map E.toI)) i
def eqE (x y : E) : E := .cmp .eql x y
def A0 : E := .var 0
def A1 : E := .var 1
def B0 : E := .var 2
def B1 : E := .var 3
def C0 : E := .var 4
def C1 : E := .var 5
def X (i : Nat) : E := q 11 [A0, A1, B0, B1] i
def Pm (i : Nat) : E := q 13 [A0, A1, B0, B1] i
def Sm (i : Nat) : E := q 11 [B0, B1, C0, C1] i
def Tm (i : Nat) : E := q 13 [A0, A1, Sm 0, Sm 1] i
def Rm (i : Nat) : E := q 13 [A0, A1, C0, C1] i
def Um (i : Nat) : E := q 11 [Pm 0, Pm 1, Rm 0, Rm 1] i
def Vm (i : Nat) : E := q 11 [X 0, X 1, C0, C1] i
def Wm (i : Nat) : E := q 11 [A0, A1, Sm 0, Sm 1] i
def Bk (i : Nat) : E := q 12 [X 0, X 1, B0, B1] i
def Dk (i : Nat) : E := q 14 [Pm 0, Pm 1, B0, B1] i
def same (f g : Nat → E) : Facts := [(eqE (f 2) (g 2), true), (eqE (f 0) (g 0), true), (eqE (f 1) (g 1), true)]
def back (f : Nat → E) : Facts := [(eqE (f 2) (.int 0), true), (eqE (f 0) A0, true), (eqE (f 1) A1, true)]
/-- The facts: b1: a + b is there; b3: a * b is; bz: b is 0; c1: b + c is; c2: a * (b + c); c3: a * c; c4: a * b + a * c. -/
def facts4 (b1 b3 bz c1 c2 c3 c4 : Bool) : Facts :=
  (.app 16 .nil 0, true) :: (same X (q 11 [B0, B1, A0, A1]) ++ same Pm (q 13 [B0, B1, A0, A1]) ++ [(eqE (X 2) (.int 0), b1), (eqE (Pm 2) (.int 0), b3), (eqE (Sm 2) (.int 0), c1)] ++
    (if b1 then back Bk else []) ++ (if b3 then (eqE B0 (.int 0), bz) :: (if bz then [] else back Dk) else []) ++
    (if b3 && c1 then (eqE (Tm 2) (.int 0), c2) :: (if c2 then (eqE (Rm 2) (.int 0), c3) :: (if c3 then (eqE (Um 2) (.int 0), c4) :: (if c4 then [(eqE (Tm 0) (Um 0), true), (eqE (Tm 1) (Um 1), true)] else []) else []) else []) else []) ++
    (if b1 && c1 then same Vm Wm else []))
end Go.Proofs.YtkmffnjmiechfaaDoor
