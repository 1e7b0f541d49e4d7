/- The fraction seat: small words for the laws' trees. -/
import Derived.Test.YtkmffnjmiechfaaDoorFF15
import Derived.Test.YtkmffnjmiechfaaDoorFG
namespace Go.Proofs.YtkmffnjmiechfaaDoor
open Go.Sx
theorem kT {b : Bool} {A B : Prop} (h : b = true) (a : A) : cond b A B := by subst h; exact a
theorem kF {b : Bool} {A B : Prop} (h : b = false) (a : B) : cond b A B := by subst h; exact a
theorem eqT {x y : Int} (h : x = y) : cmpI .eql x y = true := decide_eq_true h
theorem eqF {x y : Int} (h : x ≠ y) : cmpI .eql x y = false := decide_eq_false h
theorem ltT {x y : Int} (h : x < y) : cmpI .lss x y = true := decide_eq_true h
theorem ltF {x y : Int} (h : ¬ x < y) : cmpI .lss x y = false := decide_eq_false h
theorem eq2T {x y z w : Int} (h : x = y) (h' : z = w) : (cmpI .eql x y && cmpI .eql z w) = true := by rw [eqT h, eqT h']; rfl
end Go.Proofs.YtkmffnjmiechfaaDoor
