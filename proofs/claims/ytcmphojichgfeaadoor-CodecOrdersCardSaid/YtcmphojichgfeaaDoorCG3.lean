/- The codec seat: what is known of a tree parameter. -/
import Derived.Test.YtcmphojichgfeaaDoorCG2
import Derived.Test.YtcmphojichgfeaaDoorCP1
namespace Go.Proofs.YtcmphojichgfeaaDoor
open QC
theorem okL_mem : ∀ {l : List S24}, okL l → ∀ y ∈ l, okV y
  | x :: l, h, y, hy => by
    rw [okL] at h
    rcases List.mem_cons.1 hy with rfl | hy
    · exact h.1
    · exact okL_mem h.2 y hy
theorem okB_of' : ∀ (n : Nat) (x : S24), SizeOf.sizeOf x ≤ n → okV x → okB x
  | 0, x, h, _ => absurd h (by cases x; simp only [S24.mk.sizeOf_spec]; omega)
  | n + 1, ⟨a, b, c, l⟩, h, ho => by
    rw [okV] at ho
    rw [okB]
    exact ⟨ho.2.2.2.1, fun y hy => okB_of' n y (by have := size_mem24 hy a b c; omega) (okL_mem ho.2.2.2.2 y hy)⟩
theorem okB_of {x : S24} (h : okV x) : okB x := okB_of' _ x (Nat.le_refl _) h
end Go.Proofs.YtcmphojichgfeaaDoor
