/- The codec seat: what is known of a tree parameter, on the program's side. -/
import Derived.Test.YtcmphojichgfeaaDoorCG3
import Derived.Test.YtcmphojichgfeaaDoorCP6
namespace Go.Proofs.YtcmphojichgfeaaDoor
open QC
mutual
theorem rng_of : ∀ x : S24, okV x → rngV (toY x)
  | ⟨a, b, c, l⟩, h => by
    rw [okV] at h
    rw [toY, rngV]
    exact ⟨h.2.1, h.2.2.1, by rw [toYL_len]; exact h.2.2.2.1, rngL_of l h.2.2.2.2⟩
theorem rngL_of : ∀ l : List S24, okL l → rngL (toYL l)
  | [], _ => trivial
  | x :: l, h => by
    rw [okL] at h
    rw [toYL, rngL]
    exact ⟨rng_of x h.1, rngL_of l h.2⟩
end
theorem toY_eta (x : S24) : (⟨x.f0, x.f1, x.f2, toYL x.f3⟩ : S32) = toY x := by cases x; rw [toY]
end Go.Proofs.YtcmphojichgfeaaDoor
