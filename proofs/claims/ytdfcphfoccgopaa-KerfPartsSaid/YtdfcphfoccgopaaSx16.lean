/- A symbolic executor over the loaded program of a seat: contracts by number, and small laws on integers. -/
import Derived.Test.YtdfcphfoccgopaaSx15
namespace Go.Sx
open Go.RowKit (Below)
set_option linter.unusedVariables false
set_option linter.unusedSimpArgs false

def cfgOf (P : Program) (sigs : Nat → Option Sig) (gs inl : List Nat) (loop : Nat → Nat → Option LoopCfg) : Cfg :=
  { P, con := fun g => if gs.contains g then sigs g else none, inl := fun g => inl.contains g, loop }
def noLoop : Nat → Nat → Option LoopCfg := fun _ _ => none
/-- The contract of function g. -/
def CT (P : Program) (sigs : Nat → Option Sig) (Φ : Ctx) (g : Nat) : Prop := ∀ sg, sigs g = some sg → Contract P g sg (Φ g)
def bodyOf (fn : Func) : Code := fn.body.getD .skip
theorem body_some {fn : Func} (h : fn.body.isSome = true) : fn.body = some (bodyOf fn) := by
  unfold bodyOf
  cases hb : fn.body with
  | none => rw [hb] at h; cases h
  | some c => rfl
theorem callable_body {P : Program} {f : Nat} {fn : Func} (hfn : P.funcs[f]? = some fn) (h : callable P f = true) : fn.body.isSome = true := by
  unfold callable at h
  rw [hfn] at h
  simp only [Bool.and_eq_true] at h
  exact h.2
section
variable {P : Program} {sigs : Nat → Option Sig} {Φ : Ctx} {gs inl : List Nat} {loop : Nat → Nat → Option LoopCfg}
theorem hcon_of (h : ∀ g ∈ gs, CT P sigs Φ g) : ∀ f sg, (cfgOf P sigs gs inl loop).con f = some sg → Contract P f sg (Φ f) := by
  intro f sg hs
  simp only [cfgOf] at hs
  split at hs
  · rename_i hc
    exact h f (by simpa using hc) sg hs
  · cases hs
theorem ct_of (gs inl : List Nat) (loop : Nat → Nat → Option LoopCfg) (fuel : Nat) (hmix : P.follows .mixedOrders = true) {f : Nat} {fn : Func} {sg : Sig} (hs : sigs f = some sg) (hfn : P.funcs[f]? = some fn) (hb : callable P f = true)
    (h : ∀ g ∈ gs, CT P sigs Φ g)
    (ht : ∀ l, Canon sg.args l → (Φ f).pre l = true → (fnT (cfgOf P sigs gs inl loop) f fn (bodyOf fn) sg fuel).holds Φ l (resQ Φ fun rs => rs = (Φ f).res l)) (hlst : sg.lst = none := by rfl) (hoff : sg.off = none := by rfl) (hcst : sg.cst = none := by rfl) : CT P sigs Φ f := by
  intro sg' hs'
  rw [hs] at hs'
  cases hs'
  exact contract_of (C := cfgOf P sigs gs inl loop) (hcon_of h) hmix hfn (body_some (callable_body hfn hb)) hb hlst hoff hcst ht
/-- A law's calls. -/
theorem law_of (gs inl : List Nat) (loop : Nat → Nat → Option LoopCfg) (fuel : Nat) (hmix : P.follows .mixedOrders = true) {f : Nat} {fn : Func} {ss : List Sh} (hfn : P.funcs[f]? = some fn) (hb : callable P f = true)
    (h : ∀ g ∈ gs, CT P sigs Φ g)
    (ht : ∀ l, InRange ss l → (fnT (cfgOf P sigs gs inl loop) f fn (bodyOf fn) ⟨ss, [.one .bool], none, none, none⟩ fuel).holds Φ l (resQ Φ fun rs => rs = [.bool true])) :
    ∀ l, InRange ss l → ∀ W, GG W → Calls P f (packs ss l).toArray W fun e w' => e = .returned (.bool true) ∧ Below W.heap.size W w' :=
  fun l hl W hg => (fn_sound (C := cfgOf P sigs gs inl loop) (sg := ⟨ss, [.one .bool], none, none, none⟩) (hcon_of h) hmix hfn (body_some (callable_body hfn hb)) hl.canon (ht l hl) W hg).mono fun e w' ⟨rs, hrs, he, hw⟩ => by
    subst hrs
    exact ⟨he, hw⟩
end
theorem forall_nil {p : Nat → Prop} : ∀ g ∈ ([] : List Nat), p g := by simp
theorem forall_cons {p : Nat → Prop} {g : Nat} {gs : List Nat} (h : p g) (hs : ∀ g ∈ gs, p g) : ∀ x ∈ g :: gs, p x := by
  intro x hx
  rcases List.mem_cons.1 hx with rfl | hx
  · exact h
  · exact hs x hx

/-! ### Opening lists of scalars -/
theorem canon_int {k : IntKind} {ks : List K} {l : List Sc} (h : Rel2 K.is (.int k :: ks) l) : ∃ x l', l = .int x :: l' ∧ Rel2 K.is ks l' := by
  cases l with
  | nil => exact h.elim
  | cons s l => obtain ⟨⟨n, rfl⟩, h⟩ := h; exact ⟨n, l, rfl, h⟩
theorem canon_bool {ks : List K} {l : List Sc} (h : Rel2 K.is (.bool :: ks) l) : ∃ x l', l = .bool x :: l' ∧ Rel2 K.is ks l' := by
  cases l with
  | nil => exact h.elim
  | cons s l => obtain ⟨⟨n, rfl⟩, h⟩ := h; exact ⟨n, l, rfl, h⟩
theorem canon_str {ks : List K} {l : List Sc} (h : Rel2 K.is (.str :: ks) l) : ∃ x l', l = .str x :: l' ∧ Rel2 K.is ks l' := by
  cases l with
  | nil => exact h.elim
  | cons s l => obtain ⟨⟨n, rfl⟩, h⟩ := h; exact ⟨n, l, rfl, h⟩
theorem canon_nil {l : List Sc} (h : Rel2 K.is [] l) : l = [] := by
  cases l with
  | nil => rfl
  | cons s l => exact h.elim
theorem has_i64 {n : Int} (h : IntKind.i64.has n) : -9223372036854775808 ≤ n ∧ n ≤ 9223372036854775807 := by
  simp only [IntKind.has, IntKind.min, IntKind.max, IntKind.signed, IntKind.bits, if_true] at h
  omega
theorem range_int {k : IntKind} {ks : List K} {l : List Sc} (h : Rel2 K.has (.int k :: ks) l) : ∃ x l', l = .int x :: l' ∧ k.has x ∧ Rel2 K.has ks l' := by
  cases l with
  | nil => exact h.elim
  | cons s l => obtain ⟨⟨n, rfl, hn⟩, h⟩ := h; exact ⟨n, l, rfl, hn, h⟩
theorem range_i64 {ks : List K} {l : List Sc} (h : Rel2 K.has (.int .i64 :: ks) l) : ∃ x l', l = .int x :: l' ∧ (-9223372036854775808 ≤ x ∧ x ≤ 9223372036854775807) ∧ Rel2 K.has ks l' := by
  obtain ⟨x, l', h1, h2, h3⟩ := range_int h
  exact ⟨x, l', h1, has_i64 h2, h3⟩
theorem range_str {ks : List K} {l : List Sc} (h : Rel2 K.has (.str :: ks) l) : ∃ x l', l = .str x :: l' ∧ (x.size : Int) ≤ IntKind.i64.max ∧ Rel2 K.has ks l' := by
  cases l with
  | nil => exact h.elim
  | cons s l => obtain ⟨⟨n, rfl, hn⟩, h⟩ := h; exact ⟨n, l, rfl, hn, h⟩
theorem range_nil {l : List Sc} (h : Rel2 K.has [] l) : l = [] := by
  cases l with
  | nil => rfl
  | cons s l => exact h.elim

/-! ### Integers -/
theorem wrap_i64 {n : Int} (h1 : -9223372036854775808 ≤ n) (h2 : n ≤ 9223372036854775807) : IntKind.i64.wrap n = n := by
  have : IntKind.i64.wrap n = if n % 18446744073709551616 ≥ 9223372036854775808 then n % 18446744073709551616 - 18446744073709551616 else n % 18446744073709551616 := by
    simp [IntKind.wrap, IntKind.signed, IntKind.bits]
  rw [this]
  split <;> omega
theorem wrap_u64 {n : Int} (h1 : 0 ≤ n) (h2 : n ≤ 18446744073709551615) : IntKind.u64.wrap n = n := by
  simp only [IntKind.wrap, IntKind.signed, IntKind.bits, Bool.false_and, Bool.false_eq_true, if_false]
  omega
theorem wrap_i64_range (n : Int) : -9223372036854775808 ≤ IntKind.i64.wrap n ∧ IntKind.i64.wrap n ≤ 9223372036854775807 := by
  have : IntKind.i64.wrap n = if n % 18446744073709551616 ≥ 9223372036854775808 then n % 18446744073709551616 - 18446744073709551616 else n % 18446744073709551616 := by
    simp [IntKind.wrap, IntKind.signed, IntKind.bits]
  rw [this]
  constructor <;> split <;> omega
theorem ar_add {a b : Int} (h1 : -9223372036854775808 ≤ a + b) (h2 : a + b ≤ 9223372036854775807) : arI .add .i64 a b = a + b := wrap_i64 h1 h2
theorem ar_sub {a b : Int} (h1 : -9223372036854775808 ≤ a - b) (h2 : a - b ≤ 9223372036854775807) : arI .sub .i64 a b = a - b := wrap_i64 h1 h2
theorem ar_mul {a b : Int} (h1 : -9223372036854775808 ≤ a * b) (h2 : a * b ≤ 9223372036854775807) : arI .mul .i64 a b = a * b := wrap_i64 h1 h2
theorem ar_rem (k : IntKind) (a b : Int) : arI .rem k a b = a.tmod b := rfl
theorem ar_quo {a b : Int} (h1 : -9223372036854775808 ≤ a.tdiv b) (h2 : a.tdiv b ≤ 9223372036854775807) : arI .quo .i64 a b = a.tdiv b := wrap_i64 h1 h2
/-- A product's bounds. -/
theorem mul_bd {a b A B : Int} (ha1 : -A ≤ a) (ha2 : a ≤ A) (hb1 : -B ≤ b) (hb2 : b ≤ B) : -(A * B) ≤ a * b ∧ a * b ≤ A * B := by
  have hA : 0 ≤ A := by omega
  have hB : 0 ≤ B := by omega
  have h1 : 0 ≤ (A - a) * (B + b) := Int.mul_nonneg (by omega) (by omega)
  have h2 : 0 ≤ (A + a) * (B - b) := Int.mul_nonneg (by omega) (by omega)
  have h3 : 0 ≤ (A - a) * (B - b) := Int.mul_nonneg (by omega) (by omega)
  have h4 : 0 ≤ (A + a) * (B + b) := Int.mul_nonneg (by omega) (by omega)
  simp only [Int.sub_mul, Int.add_mul, Int.mul_sub, Int.mul_add] at h1 h2 h3 h4
  omega
end Go.Sx
