/- The fraction seat: contracts, the fourth part. -/
import Derived.Test.YtkmffnjmiechfaaDoorFF4
namespace Go.Proofs.YtkmffnjmiechfaaDoor
open Go.Sx
set_option linter.unusedVariables false
set_option linter.unusedSimpArgs false
set_option maxRecDepth 100000


theorem grow_below (w : World) (k : Nat) (os : Array Obj) : Go.RowKit.Below w.heap.size w (Go.Sort.grow (w.drewN k) os) :=
  ⟨rfl, rfl, rfl, by show w.heap.size ≤ (w.heap ++ os).size; rw [Array.size_append]; omega, fun g hg => by show (w.heap ++ os)[g]? = w.heap[g]?; rw [Array.getElem?_append_left hg]⟩
theorem c64 : CT Tryd.prog sigs Φ 64 := by
  intro sg hs
  have hs' : some (⟨[i1, i1], [(.one .str)], none, none, none⟩ : Sig) = some sg := hs
  cases hs'
  refine ⟨fun _ _ => trivial, ?_⟩
  intro l w hg hcan hp
  have hcan0 : Rel2 K.is _ l := hcan
  obtain ⟨a, l1, rfl, k1⟩ := canon_int hcan0
  obtain ⟨b, l2, rfl, k2⟩ := canon_int k1
  cases canon_nil k2
  have hp' : (ii a && decide (b = 10)) = true := hp
  simp only [Bool.and_eq_true, ii_iff, decide_eq_true_eq] at hp'
  obtain ⟨ha, rfl⟩ := hp'
  rw [if_pos (show callable Tryd.prog 64 = true by kernel_rfl)]
  exact (Tryd.strconv_FormatInt_10 a ha.1 ha.2 w hg.1).mono fun e w' ⟨he, k, os, hw⟩ => ⟨he, hw ▸ grow_below w k os⟩

end Go.Proofs.YtkmffnjmiechfaaDoor
