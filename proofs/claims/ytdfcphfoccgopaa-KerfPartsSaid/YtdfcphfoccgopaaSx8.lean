/- A symbolic executor over the loaded program of a seat: trees. -/
import Derived.Test.YtdfcphfoccgopaaSx7
namespace Go.Sx
open Go.RowKit (Below)
set_option linter.unusedVariables false
set_option linter.unusedSimpArgs false

section
variable {Φ : Ctx}
def R.holds {α : Type} (Φ : Ctx) (ρ : List Sc) : R α → (α → Prop) → Prop
  | .leaf a, Q => Q a
  | .ite c a b, Q => cond (c.den Φ ρ).toBool (a.holds Φ ρ Q) (b.holds Φ ρ Q)
  | .need n t, Q => cond (n.holds Φ ρ) (t.holds Φ ρ Q) False
  | .bad, _ => False
theorem cond_imp {b : Bool} {p q p' q' : Prop} (h : cond b p q) (hp : p → p') (hq : q → q') : cond b p' q' := by
  cases b
  · exact hq h
  · exact hp h
theorem toT_holds {α : Type} {ρ : List Sc} {f : α → T} {Q : Out → List Sc → Prop} : ∀ {r : R α}, (r.toT f).holds Φ ρ Q → r.holds Φ ρ fun a => (f a).holds Φ ρ Q
  | .leaf a, h => h
  | .ite c a b, h => cond_imp h (fun h => toT_holds (r := a) h) (fun h => toT_holds (r := b) h)
  | .need n t, h => cond_imp h (fun h => toT_holds (r := t) h) id
  | .bad, h => h
theorem bindR_holds {α β : Type} {ρ : List Sc} {f : α → R β} {Q : β → Prop} : ∀ {r : R α}, (r.bind f).holds Φ ρ Q → r.holds Φ ρ fun a => (f a).holds Φ ρ Q
  | .leaf a, h => h
  | .ite c a b, h => cond_imp h (fun h => bindR_holds (r := a) h) (fun h => bindR_holds (r := b) h)
  | .need n t, h => cond_imp h (fun h => bindR_holds (r := t) h) id
  | .bad, h => h
theorem R.holds_mono {α : Type} {ρ : List Sc} {Q Q' : α → Prop} (hq : ∀ a, Q a → Q' a) : ∀ {r : R α}, r.holds Φ ρ Q → r.holds Φ ρ Q'
  | .leaf a, h => hq _ h
  | .ite c a b, h => cond_imp h (fun h => R.holds_mono hq (r := a) h) (fun h => R.holds_mono hq (r := b) h)
  | .need n t, h => cond_imp h (fun h => R.holds_mono hq (r := t) h) id
  | .bad, h => h
theorem loopQ_mono {it it' : List Sc → Prop} {Q Q' : Out → List Sc → Prop} (hi : ∀ vs, it vs → it' vs) (hq : ∀ o ρ, Q o ρ → Q' o ρ) : ∀ o ρ, loopQ it Φ Q o ρ → loopQ it' Φ Q' o ρ
  | .cont 0 es, ρ, h => hi _ h
  | .cont (d + 1) es, ρ, h => hq _ _ h
  | .st _ _, ρ, h => hq _ _ h
  | .ret _ _, ρ, h => hq _ _ h
  | .res _, ρ, h => hq _ _ h
theorem iterH_imp {B B' : List Sc → (Out → List Sc → Prop) → Prop} {ρ : List Sc} {Q Q' : Out → List Sc → Prop}
    (hB : ∀ it it' : List Sc → Prop, (∀ vs, it vs → it' vs) → ∀ ρ', B ρ' (loopQ it Φ Q) → B' ρ' (loopQ it' Φ Q')) :
    ∀ {n : Nat} {vs : List Sc}, iterH B Φ ρ Q n vs → iterH B' Φ ρ Q' n vs
  | 0, _, h => h
  | n + 1, vs, h => hB _ _ (fun _ h => iterH_imp hB h) _ h
theorem T.holds_mono : ∀ {t : T} {ρ : List Sc} {Q Q' : Out → List Sc → Prop}, (∀ o ρ, Q o ρ → Q' o ρ) → t.holds Φ ρ Q → t.holds Φ ρ Q'
  | .leaf o, _, _, _, hq, h => hq _ _ h
  | .ite c a b, ρ, _, _, hq, h => cond_imp h (fun h => T.holds_mono (t := a) hq h) (fun h => T.holds_mono (t := b) hq h)
  | .need n t, ρ, _, _, hq, h => cond_imp h (fun h => T.holds_mono (t := t) hq h) id
  | .loop i b, ρ, _, _, hq, h => by
    obtain ⟨n, h⟩ := h
    exact ⟨n, iterH_imp (fun _ _ hi _ hb => T.holds_mono (t := b) (loopQ_mono hi hq) hb) h⟩
  | .bad, _, _, _, _, h => h
def shQ (k : Nat) (Q : Out → List Sc → Prop) : Out → List Sc → Prop
  | .cont d es, ρ => Q (.cont (if d < k then d else d + 1) es) ρ
  | o, ρ => Q o ρ
theorem shQ_loopQ {it it' : List Sc → Prop} {Q : Out → List Sc → Prop} (hi : ∀ vs, it vs → it' vs) (k : Nat) : ∀ o ρ, shQ (k + 1) (loopQ it Φ Q) o ρ → loopQ it' Φ (shQ k Q) o ρ
  | .cont 0 es, ρ, h => hi _ (by simpa [shQ, loopQ] using h)
  | .cont (d + 1) es, ρ, h => by
    simp only [shQ, loopQ] at h ⊢
    by_cases hd : d < k
    · rw [if_pos hd]; rw [if_pos (by omega)] at h; exact h
    · rw [if_neg hd]; rw [if_neg (by omega)] at h; exact h
  | .st _ _, ρ, h => h
  | .ret _ _, ρ, h => h
  | .res _, ρ, h => h
theorem shift_holds : ∀ {t : T} {k : Nat} {ρ : List Sc} {Q : Out → List Sc → Prop}, (t.shift k).holds Φ ρ Q → t.holds Φ ρ (shQ k Q)
  | .leaf (.cont d es), k, ρ, Q, h => h
  | .leaf (.st _ _), _, _, _, h => h
  | .leaf (.ret _ _), _, _, _, h => h
  | .leaf (.res _), _, _, _, h => h
  | .ite c a b, k, ρ, Q, h => cond_imp h (fun h => shift_holds (t := a) h) (fun h => shift_holds (t := b) h)
  | .need n t, k, ρ, Q, h => cond_imp h (fun h => shift_holds (t := t) h) id
  | .loop i b, k, ρ, Q, h => by
    obtain ⟨n, h⟩ := h
    exact ⟨n, iterH_imp (fun _ _ hi _ hb => T.holds_mono (shQ_loopQ hi k) (shift_holds (t := b) hb)) h⟩
  | .bad, _, _, _, h => h
def bindQ (Φ : Ctx) (f : Out → T) (Q : Out → List Sc → Prop) : Out → List Sc → Prop
  | .cont d es, ρ => Q (.cont d es) ρ
  | o, ρ => (f o).holds Φ ρ Q
theorem bindQ_loopQ {f : Out → T} {it it' : List Sc → Prop} {Q : Out → List Sc → Prop} (hi : ∀ vs, it vs → it' vs) : ∀ o ρ, bindQ Φ (fun o => (f o).shift 0) (loopQ it Φ Q) o ρ → loopQ it' Φ (bindQ Φ f Q) o ρ
  | .cont 0 es, ρ, h => hi _ h
  | .cont (d + 1) es, ρ, h => h
  | .st x σ, ρ, h => T.holds_mono (fun o ρ' h' => by cases o <;> exact h') (shift_holds (t := f (.st x σ)) h)
  | .ret x σ, ρ, h => T.holds_mono (fun o ρ' h' => by cases o <;> exact h') (shift_holds (t := f (.ret x σ)) h)
  | .res es, ρ, h => T.holds_mono (fun o ρ' h' => by cases o <;> exact h') (shift_holds (t := f (.res es)) h)
theorem bindT_holds : ∀ {t : T} {f : Out → T} {Q : Out → List Sc → Prop} {ρ : List Sc}, (t.bind f).holds Φ ρ Q → t.holds Φ ρ (bindQ Φ f Q)
  | .leaf (.cont d es), _, _, _, h => h
  | .leaf (.st _ _), _, _, _, h => h
  | .leaf (.ret _ _), _, _, _, h => h
  | .leaf (.res _), _, _, _, h => h
  | .ite c a b, f, Q, ρ, h => cond_imp h (fun h => bindT_holds (t := a) h) (fun h => bindT_holds (t := b) h)
  | .need n t, f, Q, ρ, h => cond_imp h (fun h => bindT_holds (t := t) h) id
  | .loop i b, f, Q, ρ, h => by
    obtain ⟨n, h⟩ := h
    exact ⟨n, iterH_imp (fun _ _ hi _ hb => T.holds_mono (bindQ_loopQ hi) (bindT_holds (t := b) hb)) h⟩
  | .bad, _, _, _, h => h
end
end Go.Sx
