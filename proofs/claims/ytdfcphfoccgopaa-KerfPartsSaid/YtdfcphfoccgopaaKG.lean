/- The kerf seat: contracts in the form that the print's texts use. -/
import Derived.Test.YtdfcphfoccgopaaKF3
namespace Go.Proofs.Ytdfcphfoccgopaa
open Go.Sx Go.RowKit
theorem gv {f : Nat} (sg : Sig) (hc : CT Try.prog sigs Φ f) (hs : sigs f = some sg) (hoff : sg.off = none) (hlst : sg.lst = none) (hcl : callable Try.prog f = true) (l : List Sc) (w : World) (hcan : Canon sg.args l) (hp : (Φ f).pre l = true) :
    Calls Try.prog f (packs sg.args l).toArray w fun e w' => e = .returned (packRes sg.res ((Φ f).res l)) ∧ Below w.heap.size w w' := by
  have h := (hc sg hs).2
  rw [hoff, hlst] at h
  have h' := h l w trivial hcan hp
  rw [if_pos hcl] at h'
  exact h'
end Go.Proofs.Ytdfcphfoccgopaa
