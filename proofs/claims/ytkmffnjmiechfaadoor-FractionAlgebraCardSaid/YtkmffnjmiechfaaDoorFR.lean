/- A function that calls itself: its contract by induction on a measure. -/
import Derived.Test.YtkmffnjmiechfaaDoorSx16
namespace Go.Sx
open Go.RowKit (Below)
/-- The contracts, with function f's for arguments of a measure below n alone. -/
def ΦR (Φ : Ctx) (f : Nat) (m : List Sc → Nat) (n : Nat) : Ctx := fun g => if g = f then ⟨fun l => (Φ f).pre l && decide (m l < n), (Φ f).res⟩ else Φ g
theorem ΦR_self (Φ : Ctx) (f : Nat) (m : List Sc → Nat) (n : Nat) : ΦR Φ f m n f = ⟨fun l => (Φ f).pre l && decide (m l < n), (Φ f).res⟩ := if_pos rfl
theorem ΦR_other (Φ : Ctx) (f : Nat) (m : List Sc → Nat) (n : Nat) {g : Nat} (h : g ≠ f) : ΦR Φ f m n g = Φ g := if_neg h
theorem rec_ct {P : Program} {sigs : Nat → Option Sig} {Φ : Ctx} (gs inl : List Nat) (loop : Nat → Nat → Option LoopCfg) (fuel : Nat) (hmix : P.follows .mixedOrders = true) {f : Nat} {fn : Func} {sg : Sig} (hs : sigs f = some sg) (hfn : P.funcs[f]? = some fn) (hb : callable P f = true)
    (m : List Sc → Nat) (h : ∀ g ∈ gs, g ≠ f → CT P sigs Φ g)
    (ht : ∀ n l, Canon sg.args l → (Φ f).pre l = true → m l ≤ n → (fnT (cfgOf P sigs gs inl loop) f fn (bodyOf fn) sg fuel).holds (ΦR Φ f m n) l (resQ (ΦR Φ f m n) fun rs => rs = (Φ f).res l))
    (hlst : sg.lst = none := by rfl) (hoff : sg.off = none := by rfl) (hcst : sg.cst = none := by rfl) : CT P sigs Φ f := by
  have key : ∀ n, Contract P f sg (ΦR Φ f m n f) := by
    intro n
    induction n with
    | zero =>
      rw [ΦR_self]
      refine ⟨fun l _ => by unfold CstOk; rw [hcst]; trivial, ?_⟩
      rw [hoff, hlst]
      intro l w hg hl hp
      simp at hp
    | succ n ih =>
      rw [ΦR_self]
      refine ⟨fun l _ => by unfold CstOk; rw [hcst]; trivial, ?_⟩
      rw [hoff, hlst]
      intro l w hg hl hp
      simp only [Bool.and_eq_true, decide_eq_true_eq] at hp
      rw [if_pos hb]
      have hcon : ∀ g sg', (cfgOf P sigs gs inl loop).con g = some sg' → Contract P g sg' (ΦR Φ f m n g) := by
        intro g sg' hg'
        simp only [cfgOf] at hg'
        split at hg'
        · rename_i hc
          by_cases e : g = f
          · subst e
            rw [hs] at hg'
            cases hg'
            exact ih
          · rw [ΦR_other _ _ _ _ e]
            exact h g (by simpa using hc) e sg' hg'
        · cases hg'
      exact (fn_sound (C := cfgOf P sigs gs inl loop) hcon hmix hfn (body_some (callable_body hfn hb)) hl (ht n l hl hp.1 (by omega)) w hg).mono fun e w' ⟨rs, hrs, he, hw⟩ => ⟨by rw [he, hrs], hw⟩
  intro sg' hs'
  rw [hs] at hs'
  cases hs'
  refine ⟨fun l _ => by unfold CstOk; rw [hcst]; trivial, ?_⟩
  rw [hoff, hlst]
  intro l w hg hl hp
  have k := (key (m l + 1)).2
  rw [hoff, hlst, ΦR_self] at k
  exact k l w hg hl (by simp [hp])
end Go.Sx
