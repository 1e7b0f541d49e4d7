/- The codec seat: CodecOrders' region that hands over three values, in whatever order. -/
import Derived.Test.YtcmphojichgfeaaDoorCAw
import Derived.Test.YtcmphojichgfeaaDoorCR1
import Derived.Test.YtcmphojichgfeaaDoorCO0
namespace Go.Proofs.YtcmphojichgfeaaDoor.QC
open Go.RowKit Go.Proofs.YtcmphojichgfeaaDoorW.PrintWords Go.Proofs.YtcmphojichgfeaaDoorW.PrintLast Go.Proofs.YtcmphojichgfeaaDoorW.PrintMore
set_option linter.unusedVariables false
set_option linter.unusedSimpArgs false
abbrev AGs (x : S32) (s : Value) : Value := .agg #[.int .i64 x.f0, .int .i64 x.f1, .string x.f2, s]
abbrev CSs (x : S32) (s : Value) : Array Value := #[.int .i64 x.f0, .int .i64 x.f1, .string x.f2, s]
abbrev PTs (g : Nat) : Value := .pointer (some ⟨g, 0, none⟩)
abbrev ZEs : Array Value := #[.int .i64 0, .int .i64 0, .string (⟨#[]⟩ : ByteArray), .slice none 0 0]
abbrev NB (ls : Nat → Bool) (vals : Nat → Value) (k : Nat) : Prop := ∀ e, e < 3 → ls (6 + e) = true → vals (6 + e) ≠ PTs k
structure J5 (X : Nat → S32) (LV : Nat → Value) (w0 : World) (ls : Nat → Bool) (vals : Nat → Value) (w : World) : Prop where
  below : Below w0.heap.size w0 w
  ld : ∀ e, e < 3 → ls (2 * e) = true → vals (2 * e) = LV e
  cl : ∀ e, e < 3 → ls (2 * e + 1) = true → ∃ s, vals (2 * e + 1) = AGs (X e) s ∧ Kd.R k32 32 w w0.heap.size (NB ls vals) s (X e).f3
  al : ∀ e, e < 3 → ls (6 + e) = true → ∃ g, vals (6 + e) = PTs g ∧ w0.heap.size ≤ g ∧ ∃ cs, w.heap[g]? = some (.cells cs 32 (0, 0)) ∧ (ls (9 + e) = false → cs = ZEs) ∧ (ls (9 + e) = true → ∃ s, vals (2 * e + 1) = AGs (X e) s ∧ cs = CSs (X e) s)
  df : ∀ e e', e < 3 → e' < 3 → e ≠ e' → ls (6 + e) = true → ls (6 + e') = true → vals (6 + e) ≠ vals (6 + e')
  dc : ∀ e, e < 3 → ls (9 + e) = true → ls (2 * e + 1) = true ∧ ls (6 + e) = true
section
variable {X : Nat → S32} {LV : Nat → Value} {w0 w w' : World} {ls : Nat → Bool} {vals : Nat → Value}
theorem PTs_inj {g g' : Nat} (h : PTs g = PTs g') : g = g' := by injection h with h; injection h with h; injection h
theorem J5.init (hb : Below w0.heap.size w0 w) (vals : Nat → Value) : J5 X LV w0 (fun _ => false) vals w :=
  ⟨hb, fun _ _ h => (by cases h), fun _ _ h => (by cases h), fun _ _ h => (by cases h), fun _ _ _ _ _ h => (by cases h), fun _ _ h => (by cases h)⟩
theorem J5.load (h : J5 X LV w0 ls vals w) {e : Nat} (he : e < 3) : J5 X LV w0 (DR.upd ls (2 * e) true) (DR.upd vals (2 * e) (LV e)) w := by
  have u1 : ∀ {α : Type} (f : Nat → α) (v : α) (e' : Nat), e' < 3 → DR.upd f (2 * e) v (2 * e' + 1) = f (2 * e' + 1) := fun f v e' _ => DR.upd_ne f v (by omega)
  have u2 : ∀ {α : Type} (f : Nat → α) (v : α) (e' : Nat), e' < 3 → DR.upd f (2 * e) v (6 + e') = f (6 + e') := fun f v e' _ => DR.upd_ne f v (by omega)
  have u3 : ∀ {α : Type} (f : Nat → α) (v : α) (e' : Nat), e' < 3 → DR.upd f (2 * e) v (9 + e') = f (9 + e') := fun f v e' _ => DR.upd_ne f v (by omega)
  refine ⟨h.below, fun e' he' hl => ?_, fun e' he' hl => ?_, fun e' he' hl => ?_, fun a b ha hb hab hla hlb => ?_, fun e' he' hl => ?_⟩
  · by_cases hq : e' = e
    · subst hq; rw [DR.upd_eq]
    · rw [DR.upd_ne _ _ (show 2 * e' ≠ 2 * e by omega)] at hl ⊢
      exact h.ld e' he' hl
  · rw [u1 _ _ e' he'] at hl ⊢
    obtain ⟨s, h1, h2⟩ := h.cl e' he' hl
    exact ⟨s, h1, Kd.R_mono h2 (fun k hk a ha hla => by rw [u2 _ _ a ha] at hla ⊢; exact hk a ha hla)⟩
  · rw [u2 _ _ e' he'] at hl ⊢
    rw [u3 _ _ e' he', u1 _ _ e' he']
    exact h.al e' he' hl
  · rw [u2 _ _ a ha] at hla ⊢
    rw [u2 _ _ b hb] at hlb ⊢
    exact h.df a b ha hb hab hla hlb
  · rw [u3 _ _ e' he'] at hl
    rw [u1 _ _ e' he', u2 _ _ e' he']
    exact h.dc e' he' hl
theorem J5.call (h : J5 X LV w0 ls vals w) {e : Nat} (he : e < 3) (hls : ls (2 * e + 1) = false) {s : Value} (hv : Kd.R k32 32 w' w.heap.size (fun _ => True) s (X e).f3) (hb : Below w.heap.size w w') :
    J5 X LV w0 (DR.upd ls (2 * e + 1) true) (DR.upd vals (2 * e + 1) (AGs (X e) s)) w' := by
  have u0 : ∀ {α : Type} (f : Nat → α) (v : α) (e' : Nat), e' < 3 → DR.upd f (2 * e + 1) v (2 * e') = f (2 * e') := fun f v e' _ => DR.upd_ne f v (by omega)
  have u2 : ∀ {α : Type} (f : Nat → α) (v : α) (e' : Nat), e' < 3 → DR.upd f (2 * e + 1) v (6 + e') = f (6 + e') := fun f v e' _ => DR.upd_ne f v (by omega)
  have u3 : ∀ {α : Type} (f : Nat → α) (v : α) (e' : Nat), e' < 3 → DR.upd f (2 * e + 1) v (9 + e') = f (9 + e') := fun f v e' _ => DR.upd_ne f v (by omega)
  have hnb : ∀ k, NB ls vals k → NB (DR.upd ls (2 * e + 1) true) (DR.upd vals (2 * e + 1) (AGs (X e) s)) k := fun k hk a ha hla => by rw [u2 _ _ a ha] at hla ⊢; exact hk a ha hla
  refine ⟨below_step h.below hb, fun e' he' hl => ?_, fun e' he' hl => ?_, fun e' he' hl => ?_, fun a b ha hb hab hla hlb => ?_, fun e' he' hl => ?_⟩
  · rw [u0 _ _ e' he'] at hl ⊢
    exact h.ld e' he' hl
  · by_cases hq : e' = e
    · subst hq
      rw [DR.upd_eq]
      refine ⟨s, rfl, Kd.R_mono (Kd.R_lower (Kd.R_bound hv) h.below.size) (fun k hk => hnb k fun a ha hla hk2 => ?_)⟩
      obtain ⟨g, hg, _, cs, hcs, _⟩ := h.al a ha hla
      have := PTs_inj (hg.symm.trans hk2)
      have := blk_lt hcs
      have := hk.2.1
      omega
    · rw [DR.upd_ne _ _ (show 2 * e' + 1 ≠ 2 * e + 1 by omega)] at hl ⊢
      obtain ⟨s', h1, h2⟩ := h.cl e' he' hl
      exact ⟨s', h1, Kd.R_mono (Kd.R_below h2 hb) hnb⟩
  · rw [u2 _ _ e' he'] at hl ⊢
    rw [u3 _ _ e' he']
    obtain ⟨g, h1, h2, cs, h3, h4, h5⟩ := h.al e' he' hl
    refine ⟨g, h1, h2, cs, blk_below h3 hb, h4, fun h9 => ?_⟩
    have hne : e' ≠ e := by
      rintro rfl
      have := (h.dc e' he' h9).1
      rw [hls] at this
      cases this
    rw [DR.upd_ne _ _ (show 2 * e' + 1 ≠ 2 * e + 1 by omega)]
    exact h5 h9
  · rw [u2 _ _ a ha] at hla ⊢
    rw [u2 _ _ b hb] at hlb ⊢
    exact h.df a b ha hb hab hla hlb
  · rw [u3 _ _ e' he'] at hl
    rw [u2 _ _ e' he']
    obtain ⟨h1, h2⟩ := h.dc e' he' hl
    refine ⟨?_, h2⟩
    by_cases hq : e' = e
    · subst hq; rw [DR.upd_eq]
    · rw [DR.upd_ne _ _ (show 2 * e' + 1 ≠ 2 * e + 1 by omega)]; exact h1
theorem J5.alloc (h : J5 X LV w0 ls vals w) {e : Nat} (he : e < 3) (hls : ls (6 + e) = false) :
    J5 X LV w0 (DR.upd ls (6 + e) true) (DR.upd vals (6 + e) (PTs w.heap.size)) (w.alloc (.cells ZEs 32 (0, 0))) := by
  have hb : Below w.heap.size w (w.alloc (.cells ZEs 32 (0, 0))) := below_alloc (Below.refl _ _) _
  have u0 : ∀ {α : Type} (f : Nat → α) (v : α) (e' : Nat), e' < 3 → DR.upd f (6 + e) v (2 * e') = f (2 * e') := fun f v e' _ => DR.upd_ne f v (by omega)
  have u1 : ∀ {α : Type} (f : Nat → α) (v : α) (e' : Nat), e' < 3 → DR.upd f (6 + e) v (2 * e' + 1) = f (2 * e' + 1) := fun f v e' _ => DR.upd_ne f v (by omega)
  have u3 : ∀ {α : Type} (f : Nat → α) (v : α) (e' : Nat), e' < 3 → DR.upd f (6 + e) v (9 + e') = f (9 + e') := fun f v e' _ => DR.upd_ne f v (by omega)
  have old : ∀ a, a < 3 → ls (6 + a) = true → ∃ g, vals (6 + a) = PTs g ∧ g < w.heap.size := fun a ha hla => by
    obtain ⟨g, hg, _, cs, hcs, _⟩ := h.al a ha hla
    exact ⟨g, hg, blk_lt hcs⟩
  refine ⟨below_step h.below hb, fun e' he' hl => ?_, fun e' he' hl => ?_, fun e' he' hl => ?_, fun a b ha hb' hab hla hlb => ?_, fun e' he' hl => ?_⟩
  · rw [u0 _ _ e' he'] at hl ⊢
    exact h.ld e' he' hl
  · rw [u1 _ _ e' he'] at hl ⊢
    obtain ⟨s, h1, h2⟩ := h.cl e' he' hl
    refine ⟨s, h1, Kd.R_below (Kd.R_mono (Kd.R_bound h2) (fun k hk a ha hla => ?_)) hb⟩
    by_cases hq : a = e
    · subst hq
      rw [DR.upd_eq]
      intro hk2
      have := PTs_inj hk2
      have := hk.2.2.1
      omega
    · rw [DR.upd_ne _ _ (show 6 + a ≠ 6 + e by omega)] at hla ⊢
      exact hk.1 a ha hla
  · rw [u3 _ _ e' he', u1 _ _ e' he']
    by_cases hq : e' = e
    · subst hq
      rw [DR.upd_eq]
      refine ⟨_, rfl, h.below.size, ZEs, blk_new _ _, fun _ => rfl, fun h9 => ?_⟩
      have := (h.dc e' he' h9).2
      rw [hls] at this
      cases this
    · rw [DR.upd_ne _ _ (show 6 + e' ≠ 6 + e by omega)] at hl ⊢
      obtain ⟨g, h1, h2, cs, h3, h4⟩ := h.al e' he' hl
      exact ⟨g, h1, h2, cs, blk_below h3 hb, h4⟩
  · by_cases hqa : a = e
    · subst hqa
      rw [DR.upd_eq]
      rw [DR.upd_ne _ _ (show 6 + b ≠ 6 + a by omega)] at hlb ⊢
      obtain ⟨g, hg, hlt⟩ := old b hb' hlb
      rw [hg]
      intro hk
      have := PTs_inj hk
      omega
    · rw [DR.upd_ne _ _ (show 6 + a ≠ 6 + e by omega)] at hla ⊢
      by_cases hqb : b = e
      · subst hqb
        rw [DR.upd_eq]
        obtain ⟨g, hg, hlt⟩ := old a ha hla
        rw [hg]
        intro hk
        have := PTs_inj hk
        omega
      · rw [DR.upd_ne _ _ (show 6 + b ≠ 6 + e by omega)] at hlb ⊢
        exact h.df a b ha hb' hab hla hlb
  · rw [u3 _ _ e' he'] at hl
    rw [u1 _ _ e' he']
    obtain ⟨h1, h2⟩ := h.dc e' he' hl
    refine ⟨h1, ?_⟩
    by_cases hq : e' = e
    · subst hq; rw [DR.upd_eq]
    · rw [DR.upd_ne _ _ (show 6 + e' ≠ 6 + e by omega)]; exact h2
theorem J5.store (h : J5 X LV w0 ls vals w) {e : Nat} (he : e < 3) (hls : ls (9 + e) = false) (h1 : ls (2 * e + 1) = true) (h6 : ls (6 + e) = true) :
    ∃ g s, vals (6 + e) = PTs g ∧ vals (2 * e + 1) = AGs (X e) s ∧ (∃ A c, s = .slice A (X e).f3.length c) ∧ w.heap[g]? = some (.cells ZEs 32 (0, 0)) ∧
      ∀ v, J5 X LV w0 (DR.upd ls (9 + e) true) (DR.upd vals (9 + e) v) ((((w.setCell ⟨g, 0, none⟩ (.int .i64 (X e).f0)).setCell ⟨g, 1, none⟩ (.int .i64 (X e).f1)).setCell ⟨g, 2, none⟩ (.string (X e).f2)).setCell ⟨g, 3, none⟩ s) := by
  obtain ⟨s, hs, hR⟩ := h.cl e he h1
  obtain ⟨g, hg, hge, cs, hcs, hz, _⟩ := h.al e he h6
  have hz0 := hz hls
  subst hz0
  have u0 : ∀ {α : Type} (f : Nat → α) (v : α) (e' : Nat), e' < 3 → DR.upd f (9 + e) v (2 * e') = f (2 * e') := fun f v e' _ => DR.upd_ne f v (by omega)
  have u1 : ∀ {α : Type} (f : Nat → α) (v : α) (e' : Nat), e' < 3 → DR.upd f (9 + e) v (2 * e' + 1) = f (2 * e' + 1) := fun f v e' _ => DR.upd_ne f v (by omega)
  have u2 : ∀ {α : Type} (f : Nat → α) (v : α) (e' : Nat), e' < 3 → DR.upd f (9 + e) v (6 + e') = f (6 + e') := fun f v e' _ => DR.upd_ne f v (by omega)
  refine ⟨g, s, hg, hs, Kd.R_slice hR, hcs, fun v => ⟨st4_B h.below hge _ _ _ _, fun e' he' hl => ?_, fun e' he' hl => ?_, fun e' he' hl => ?_, fun a b ha hb' hab hla hlb => ?_, fun e' he' hl => ?_⟩⟩
  · rw [u0 _ _ e' he'] at hl ⊢
    exact h.ld e' he' hl
  · rw [u1 _ _ e' he'] at hl ⊢
    obtain ⟨s', q1, q2⟩ := h.cl e' he' hl
    refine ⟨s', q1, Kd.R_mono (R_far4 q2 (fun k hk hk2 => hk e he h6 (by rw [hg, hk2])) _ _ _ _) (fun k hk a ha hla => by rw [u2 _ _ a ha] at hla ⊢; exact hk a ha hla)⟩
  · rw [u2 _ _ e' he'] at hl ⊢
    rw [u1 _ _ e' he']
    by_cases hq : e' = e
    · subst hq
      rw [DR.upd_eq]
      exact ⟨g, hg, hge, CSs (X e') s, st4_put hcs _ _ _ _, fun h => Bool.noConfusion h, fun _ => ⟨s, hs, rfl⟩⟩
    · rw [DR.upd_ne _ _ (show 9 + e' ≠ 9 + e by omega)]
      obtain ⟨g', q1, q2, cs', q3, q4⟩ := h.al e' he' hl
      refine ⟨g', q1, q2, cs', st4_far q3 (fun hgg => ?_) _ _ _ _, q4⟩
      exact h.df e' e he' he hq hl h6 (by rw [q1, hg, hgg])
  · rw [u2 _ _ a ha] at hla ⊢
    rw [u2 _ _ b hb'] at hlb ⊢
    exact h.df a b ha hb' hab hla hlb
  · rw [u1 _ _ e' he', u2 _ _ e' he']
    by_cases hq : e' = e
    · subst hq; exact ⟨h1, h6⟩
    · rw [DR.upd_ne _ _ (show 9 + e' ≠ 9 + e by omega)] at hl
      exact h.dc e' he' hl
/-- All is listed. -/
theorem J5.fin {n : Nat} (hn : 12 ≤ n) (h : J5 X LV w0 (fun k => decide (k < n)) vals w) {e : Nat} (he : e < 3) :
    ∃ (g : Nat) (A : Option Addr) (c : Nat), vals (6 + e) = PTs g ∧ vals (2 * e + 1) = AGs (X e) (.slice A (X e).f3.length c) ∧ w0.heap.size ≤ g ∧ w.heap[g]? = some (.cells (CSs (X e) (.slice A (X e).f3.length c)) 32 (0, 0)) ∧ (X e).f3.length ≤ c ∧ Kd.C k32 w A (X e).f3.length (X e).f3 := by
  obtain ⟨s, hs, hR⟩ := h.cl e he (decide_eq_true (by omega))
  obtain ⟨g, hg, hge, cs, hcs, _, h2⟩ := h.al e he (decide_eq_true (by omega))
  obtain ⟨s', hs', rfl⟩ := h2 (decide_eq_true (by omega))
  rw [hs] at hs'
  have e1 : s = s' := by
    injection hs' with h
    injection h with h
    simp at h
    exact h
  subst e1
  obtain ⟨A, c, rfl, hl, hC⟩ := Kd.R_reads hR
  exact ⟨g, A, c, hg, hs, hge, hcs, hl, hC⟩
end
end Go.Proofs.YtcmphojichgfeaaDoor.QC
