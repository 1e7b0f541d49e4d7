/- A symbolic executor over the loaded program of a seat: one operation in its region; a region in the order of the text. -/
import Derived.Test.YtdfcphfoccgopaaSx8
namespace Go.Sx
open Go.RowKit (Below)
set_option linter.unusedVariables false
set_option linter.unusedSimpArgs false

section
variable {C : Cfg} {Φ : Ctx} {ρ : List Sc} {w0 : World} {β0 β : Bij} {v : View} {a : Act} {w : World}
/-- An operation that does what is told from every state in which its operands and its cells read so. -/
def Good (C : Cfg) (Φ : Ctx) (ρ : List Sc) (w0 : World) (o : Oper) (vs : List TV) (mem : Option (List Cell)) (id : Nat) (tv : TV) (eff : Eff) : Prop :=
  ∀ β0 v β a w, Inv Φ ρ w0 β0 v β a w → (∀ d, o.dst = some d → ∃ z, v.tm d = some z) → Rel2 (TV.rel Φ ρ β) vs (o.op.operands.toList.map a.eval) →
    (∀ b off n cs, foot C o.op vs = some (b, off, n) → mem = some cs → cs.length = n ∧ ∀ i c, cs[i]? = some c → v.cell b (off + i) = some c) → v.ty id = none →
    Does C Φ ρ w0 β0 β v a w o tv eff
/-- The shape of an effect. -/
def EffOk (C : Cfg) (op : Op) (vs : List TV) (mem : Option (List Cell)) (id : Nat) : Eff → Prop
  | .no => True
  | .new id' _ => id' = id
  | .wr b o cs => foot C op vs = some (b, o, cs.length) ∧ ∃ old, mem = some old ∧ old.length = cs.length
theorem forkIx_ne {fs : Facts} {x : E} {ns : List Need} {tv : TV} {eff : Eff} : ∀ (n i : Nat), forkIx fs x n i ≠ .ok ns tv eff
  | 0, i => by simp [forkIx]
  | n + 1, i => by
    simp only [forkIx]
    split
    · exact forkIx_ne n (i + 1)
    · simp
theorem addrOf_eff {P : Program} {fs : Facts} {b o len : Nat} {elem : TypeId} {x : E} {lim : Nat} {needs : List Need} {tv : TV} {eff : Eff} (h : addrOf P fs b o len elem x lim = .ok needs tv eff) : eff = .no := by
  unfold addrOf at h
  repeat' split at h
  all_goals first
    | (cases h; rfl)
    | (cases h; done)
    | exact absurd h (forkIx_ne _ _)
theorem binA_eff {P : Program} {fs : Facts} {op : BinOp} {t : TypeId} {x y : TV} {needs : List Need} {tv : TV} {eff : Eff} (h : binA P fs op t x y = .ok needs tv eff) : eff = .no := by
  unfold binA at h
  repeat' split at h
  all_goals first | (cases h; rfl) | (cases h; done)
theorem step_eff {fs : Facts} {op : Op} {vs : List TV} {mem : Option (List Cell)} {id : Nat} {needs : List Need} {tv : TV} {eff : Eff} (h : step C fs op vs mem id = .ok needs tv eff) : EffOk C op vs mem id eff := by
  unfold step at h
  split at h
  case h_9 t x y b o x' =>
    split at h
    · rename_i old s hs
      split at h
      · rename_i hc
        cases h
        exact ⟨by simp [foot, hs, hc.1], old, rfl, by rw [hc.2.1, hc.1]⟩
      · cases h
    · cases h
  case h_11 => rw [binA_eff h]; trivial
  case h_25 =>
    unfold stepCall stepList stepOff at h
    repeat' split at h
    all_goals first | (cases h; trivial) | (cases h; done) | exact absurd h (forkIx_ne _ _)
  all_goals
    repeat' split at h
    all_goals first
      | (cases h; trivial)
      | (cases h; done)
      | (cases h; rfl)
      | exact absurd h (forkIx_ne _ _)
      | (rw [addrOf_eff h]; trivial)
theorem needs_holds {α : Type} {r : R α} {Q : α → Prop} : ∀ {ns : List Need}, (R.needs ns r).holds Φ ρ Q → (∀ n ∈ ns, n.holds Φ ρ = true) ∧ r.holds Φ ρ Q
  | [], h => ⟨by simp, h⟩
  | n :: ns, h => by
    unfold R.needs at h
    split at h
    · rename_i heq; cases heq
    · rename_i ns' heq
      cases heq
      obtain ⟨h1, h2⟩ := needs_holds h
      refine ⟨fun m hm => ?_, h2⟩
      rcases List.mem_cons.1 hm with rfl | hm
      · rfl
      · exact h1 m hm
    · rename_i n' ns' _ heq
      cases heq
      simp only [R.holds] at h
      cases hn : n.holds Φ ρ
      · rw [hn] at h; exact h.elim
      · rw [hn] at h
        obtain ⟨h1, h2⟩ := needs_holds (ns := ns) h
        refine ⟨fun m hm => ?_, h2⟩
        rcases List.mem_cons.1 hm with rfl | hm
        · exact hn
        · exact h1 m hm
theorem forkR_sound {α : Type} {c : E} {fs : Facts} {k : Facts → Bool → R α} {Q : α → Prop} (h : (forkR c fs k).holds Φ ρ Q) (hf : FactsOk Φ ρ fs) :
    ∃ fs', FactsOk Φ ρ fs' ∧ (k fs' (c.den Φ ρ).toBool).holds Φ ρ Q := by
  unfold forkR at h
  split at h
  · exact ⟨fs, hf, h⟩
  · rename_i c'
    simp only [R.holds] at h
    cases hc : (c'.den Φ ρ).toBool
    · rw [hc] at h
      refine ⟨_, hf.cons hc, ?_⟩
      rw [show ((E.not c').den Φ ρ).toBool = !(c'.den Φ ρ).toBool from rfl, hc]
      exact h
    · rw [hc] at h
      refine ⟨_, hf.cons hc, ?_⟩
      rw [show ((E.not c').den Φ ρ).toBool = !(c'.den Φ ρ).toBool from rfl, hc]
      exact h
  · simp only [R.holds] at h
    cases hc : (c.den Φ ρ).toBool
    · rw [hc] at h; exact ⟨_, hf.cons hc, h⟩
    · rw [hc] at h; exact ⟨_, hf.cons hc, h⟩
theorem runStep_sound {mk : Facts → SR} {Q : Facts × TV × Eff → Prop} : ∀ {n : Nat} {fs : Facts}, (runStep mk n fs).holds Φ ρ Q → FactsOk Φ ρ fs →
    ∃ fs' ns tv eff, FactsOk Φ ρ fs' ∧ mk fs' = .ok ns tv eff ∧ (∀ n ∈ ns, n.holds Φ ρ = true) ∧ Q (fs', tv, eff)
  | 0, _, h, _ => h.elim
  | n + 1, fs, h, hf => by
    simp only [runStep] at h
    split at h
    · rename_i ns tv eff heq
      obtain ⟨h1, h2⟩ := needs_holds h
      exact ⟨fs, ns, tv, eff, hf, heq, h1, h2⟩
    · obtain ⟨fs', hf', h'⟩ := forkR_sound h hf
      exact runStep_sound h' hf'
    · exact h.elim
theorem Inv.weaken (h : Inv Φ ρ w0 β0 v β a w) {v' : View} (hc : v'.cell = v.cell) (ht : v'.ty = v.ty) (htm : ∀ t x, v'.tm t = some x → ∃ x', v.tm t = some x' ∧ ∀ y, x'.rel Φ ρ β y → x.rel Φ ρ β y) : Inv Φ ρ w0 β0 v' β a w := by
  refine ⟨fun t x hx => ?_, h.defers, by rw [hc, ht]; exact h.ty, by rw [hc, ht]; exact h.cty, by rw [hc]; exact h.inj, by rw [ht]; exact h.dom, h.ext, h.below, h.sz, h.gg⟩
  obtain ⟨x', hx', hr⟩ := htm t x hx
  obtain ⟨y, hy, hy'⟩ := h.tm t x' hx'
  exact ⟨y, hy, hr y hy'⟩
theorem eff_tm (v : View) (e : Eff) : (v.eff e).tm = v.tm := by cases e <;> rfl
theorem put_eff (v : View) (d : Option Nat) (x : TV) (e : Eff) : (v.put d x).eff e = (v.eff e).put d x := by cases e <;> rfl
theorem Does.weaken {o : Oper} {tv tv' : TV} {eff : Eff} (h : Does C Φ ρ w0 β0 β v a w o tv eff) (hr : ∀ β y, tv.rel Φ ρ β y → tv'.rel Φ ρ β y) : Does C Φ ρ w0 β0 β v a w o tv' eff := by
  intro K Q hK
  refine h K Q fun β' a' w' hle hI => hK β' a' w' hle (hI.weaken ?_ ?_ fun t x hx => ?_)
  · rw [put_eff, put_eff]; rfl
  · rw [put_eff, put_eff]; rfl
  · rw [eff_tm] at hx ⊢
    simp only [View.put] at hx ⊢
    split at hx
    · rename_i e
      cases hx
      exact ⟨tv, by rw [if_pos e], hr β'⟩
    · rename_i e
      exact ⟨x, by rw [if_neg e]; exact hx, fun _ h => h⟩
theorem opR_sound (hcon : ∀ f sg, C.con f = some sg → Contract C.P f sg (Φ f)) {ops : List Oper} {i : Nat} {o : Oper} {vs : List TV} {mem : Option (List Cell)} {id : Nat} {fs : Facts} {Q : Facts × TV × Eff → Prop}
    (h : (opR C ops i o vs mem id fs).holds Φ ρ Q) (hf : FactsOk Φ ρ fs) (w0 : World) :
    ∃ fs' tv eff, FactsOk Φ ρ fs' ∧ Q (fs', tv, eff) ∧ Good C Φ ρ w0 o vs mem id tv eff ∧ EffOk C o.op vs mem id eff := by
  unfold opR at h
  obtain ⟨fs', ns, tv, eff, hf', hstep, hns, h⟩ := runStep_sound (bindR_holds h) hf
  have hgood : Good C Φ ρ w0 o vs mem id tv eff := by
    intro β0 v β a w hI hd hvs hmem hid
    obtain ⟨dst, op, type, pos, after, guard⟩ := o
    exact step_sound hcon hf' hstep hns hI hd hvs hmem hid
  unfold litGuard at h
  split at h
  · rename_i fs0 e eff0 _ heq
    simp only [Prod.mk.injEq] at heq
    obtain ⟨rfl, rfl, rfl⟩ := heq
    obtain ⟨fs'', hf'', h⟩ := forkR_sound h hf'
    refine ⟨fs'', _, _, hf'', h, ?_, step_eff hstep⟩
    intro β0 v β a w hI hd hvs hmem hid
    refine (hgood β0 v β a w hI hd hvs hmem hid).weaken fun β y hy => ?_
    have hy' : y = .bool (e.den Φ ρ).toBool := hy
    show y = .bool _
    rw [hy', ← resolve_sound hf' e]
    rfl
  · exact ⟨fs', tv, eff, hf', h, hgood, step_eff hstep⟩

/-! ### Lists and views -/
theorem readH_sound {heap : List (Option Blk)} {b o n : Nat} {cs : List Cell} (h : readH heap (b, o, n) = some cs) : cs.length = n ∧ ∀ i c, cs[i]? = some c → cellV heap b (o + i) = some c := by
  simp only [readH] at h
  split at h
  · rename_i blk hb
    split at h
    · rename_i hl
      cases h
      refine ⟨by simp; omega, fun i c hi => ?_⟩
      simp only [cellV, hb]
      have hi' : i < n := by have := (List.getElem?_eq_some_iff.1 hi).1; simp at this; omega
      simpa [List.getElem?_take, hi'] using hi
    · cases h
  · cases h
theorem viewOf_put {tm : List TV} {heap : List (Option Blk)} {dst : Option Nat} (hd : dstOk tm dst = true) (x : TV) : viewOf (putA tm dst x) heap = (viewOf tm heap).put dst x := by
  cases dst with
  | none => rfl
  | some d =>
    simp only [putA, viewOf, View.put]
    congr 1
    funext t
    by_cases e : d = t
    · subst e
      have : d < tm.length := by simpa [dstOk] using hd
      simp [this]
    · have e' : ¬ (some d = some t) := by simpa using e
      simp [List.getElem?_set, e]
theorem dst_some {tm : List TV} {heap : List (Option Blk)} {dst : Option Nat} (hd : dstOk tm dst = true) : ∀ d, dst = some d → ∃ z, (viewOf tm heap).tm d = some z := by
  intro d hd'
  subst hd'
  have : d < tm.length := by simpa [dstOk] using hd
  exact ⟨tm[d], by simp [viewOf, this]⟩
theorem viewOf_eff {tm : List TV} {heap : List (Option Blk)} {op : Op} {vs : List TV} {id : Nat} {eff : Eff} (hid : id < heap.length) (h : EffOk C op vs (memOf C heap op vs) id eff) :
    viewOf tm (eff.apply heap) = (viewOf tm heap).eff eff := by
  cases eff with
  | no => rfl
  | new id' b =>
    obtain rfl : id' = id := h
    simp only [Eff.apply, viewOf, View.eff]
    congr 1
    · funext b' o
      simp only [cellV]
      by_cases e : b' = id'
      · subst e; simp [hid]
      · simp [e, List.getElem?_set, Ne.symm e]
    · funext b'
      simp only [tyV]
      by_cases e : b' = id'
      · subst e; simp [hid]
      · simp [e, List.getElem?_set, Ne.symm e]
  | wr b o cs =>
    obtain ⟨hfoot, old, hold, hlen⟩ := h
    unfold memOf at hold
    rw [hfoot, Option.bind_some] at hold
    simp only [readH] at hold
    split at hold
    · rename_i blk hb
      split at hold
      · rename_i hl
        have hlt : b < heap.length := (List.getElem?_eq_some_iff.1 hb).1
        simp only [Eff.apply, hb, viewOf, View.eff]
        congr 1
        · funext b' o'
          simp only [cellV]
          by_cases e : b' = b
          · subst e
            simp only [List.getElem?_set_self hlt, hb]
            rw [setCellsA_get _ _ _ _ hl]
            by_cases hin : o ≤ o' ∧ o' < o + cs.length
            · rw [if_pos hin, if_pos (by simpa using hin)]
            · rw [if_neg hin, if_neg (by simpa using hin)]
          · rw [if_neg (fun x => e x.1)]
            simp [List.getElem?_set, Ne.symm e]
        · funext b'
          simp only [tyV]
          by_cases e : b' = b
          · subst e; rw [List.getElem?_set_self hlt, hb]
          · simp [List.getElem?_set, Ne.symm e]
      · cases hold
    · cases hold
theorem getD_none_view (heap : List (Option Blk)) (n : Nat) (tm : List TV) : viewOf tm (heap ++ List.replicate n none) = viewOf tm heap := by
  simp only [viewOf]
  congr 1
  · funext b o
    simp only [cellV]
    by_cases hb : b < heap.length
    · rw [List.getElem?_append_left hb]
    · rw [List.getElem?_append_right (by omega), List.getElem?_eq_none (by omega : heap.length ≤ b)]
      cases h : (List.replicate n (none : Option Blk))[b - heap.length]? with
      | none => rfl
      | some x =>
        have := List.mem_of_getElem? h
        rw [List.eq_of_mem_replicate this]
  · funext b
    simp only [tyV]
    by_cases hb : b < heap.length
    · rw [List.getElem?_append_left hb]
    · rw [List.getElem?_append_right (by omega), List.getElem?_eq_none (by omega : heap.length ≤ b)]
      cases h : (List.replicate n (none : Option Blk))[b - heap.length]? with
      | none => rfl
      | some x =>
        have := List.mem_of_getElem? h
        rw [List.eq_of_mem_replicate this]
theorem wantedA_sound {ops : Array Oper} {tm : Nat → Option TV} {o : Oper} {b : Bool} (h : wantedV ops.toList tm o = some b) {a : Act} (hI : ∀ (t : Nat) (x : TV), tm t = some x → ∃ y, a.tmps[t]? = some y ∧ x.rel Φ ρ β y) :
    Region.wanted o (yielded ops a.tmps) = b := by
  unfold wantedV at h
  unfold Region.wanted
  split at h
  · rename_i hg; cases h; rw [hg]
  · rename_i j want hg
    rw [hg]
    simp only [Array.getElem?_toList] at h
    split at h
    · cases h
    · rename_i d hd
      simp only [yielded, hd, Option.bind_some]
      split at h
      · rename_i b' ht
        cases h
        obtain ⟨y, hy, hr⟩ := hI _ _ ht
        have hr' : y = .bool b' := hr
        rw [hy, hr']
        cases b' <;> cases want <;> rfl
      · rename_i xs ht
        cases h
        obtain ⟨y, hy, us, hr, _⟩ := hI _ _ ht
        rw [hy, hr]
        rfl
      · cases h

/-! ### The state of a run -/
structure SInv (Φ : Ctx) (ρ : List Sc) (w0 : World) (β0 : Bij) (σ : St) (β : Bij) (a : Act) (w : World) : Prop where
  inv : Inv Φ ρ w0 β0 (viewOf σ.tm σ.heap) β a w
  facts : FactsOk Φ ρ σ.facts
  len : ρ.length = σ.nv
def exitOf : Ex → Exit
  | .normal => .normal
  | .exit id => .exit id
  | .ret => .ret
def PostOf (Φ : Ctx) (Q : Out → List Sc → Prop) (ρ : List Sc) (w0 : World) (β0 : Bij) (x : Exit) (a : Act) (w : World) : Prop :=
  ∃ ex σ ρ' β, exitOf ex = x ∧ Q (.st ex σ) ρ' ∧ ρ <+: ρ' ∧ SInv Φ ρ' w0 β0 σ β a w

/-! ### Scopes -/
theorem den_sc {ρ ext : List Sc} : ∀ {e : E} {n : Nat}, ρ.length = n → e.sc n = true → e.dn Φ (ρ ++ ext) = e.dn Φ ρ
  | .int _, _, _, _ => rfl
  | .bool _, _, _, _ => rfl
  | .str _, _, _, _ => rfl
  | .var i, n, hl, h => by
    have hi : i < ρ.length := by rw [hl]; simpa [E.sc] using h
    simp only [E.dn]
    rw [List.getD_eq_getElem?_getD, List.getD_eq_getElem?_getD, List.getElem?_append_left hi]
  | .ar op k x y, n, hl, h => by
    simp only [E.sc, Bool.and_eq_true] at h
    simp only [E.dn, den_sc hl h.1, den_sc hl h.2]
  | .cmp op x y, n, hl, h => by
    simp only [E.sc, Bool.and_eq_true] at h
    simp only [E.dn, den_sc hl h.1, den_sc hl h.2]
  | .eqb x y, n, hl, h => by
    simp only [E.sc, Bool.and_eq_true] at h
    simp only [E.dn, den_sc hl h.1, den_sc hl h.2]
  | .not x, n, hl, h => by
    simp only [E.sc] at h
    simp only [E.dn, den_sc hl h]
  | .and x y, n, hl, h => by
    simp only [E.sc, Bool.and_eq_true] at h
    simp only [E.dn, den_sc hl h.1, den_sc hl h.2]
  | .conv k x, n, hl, h => by
    simp only [E.sc] at h
    simp only [E.dn, den_sc hl h]
  | .mx x y, n, hl, h => by
    simp only [E.sc, Bool.and_eq_true] at h
    simp only [E.dn, den_sc hl h.1, den_sc hl h.2]
  | .mn x y, n, hl, h => by
    simp only [E.sc, Bool.and_eq_true] at h
    simp only [E.dn, den_sc hl h.1, den_sc hl h.2]
  | .ite c x y, n, hl, h => by
    simp only [E.sc, Bool.and_eq_true] at h
    simp only [E.dn, den_sc hl h.1.1, den_sc hl h.1.2, den_sc hl h.2]
  | .toI x, n, hl, h => by
    simp only [E.sc] at h
    simp only [E.dn, den_sc hl h]
  | .toB x, n, hl, h => by
    simp only [E.sc] at h
    simp only [E.dn, den_sc hl h]
  | .toS x, n, hl, h => by
    simp only [E.sc] at h
    simp only [E.dn, den_sc hl h]
  | .eqs x y, n, hl, h => by
    simp only [E.sc, Bool.and_eq_true] at h
    simp only [E.dn, den_sc hl h.1, den_sc hl h.2]
  | .slt x y, n, hl, h => by
    simp only [E.sc, Bool.and_eq_true] at h
    simp only [E.dn, den_sc hl h.1, den_sc hl h.2]
  | .slen x, n, hl, h => by
    simp only [E.sc] at h
    simp only [E.dn, den_sc hl h]
  | .sat x y, n, hl, h => by
    simp only [E.sc, Bool.and_eq_true] at h
    simp only [E.dn, den_sc hl h.1, den_sc hl h.2]
  | .ssub x y z, n, hl, h => by
    simp only [E.sc, Bool.and_eq_true] at h
    simp only [E.dn, den_sc hl h.1.1, den_sc hl h.1.2, den_sc hl h.2]
  | .scat x y, n, hl, h => by
    simp only [E.sc, Bool.and_eq_true] at h
    simp only [E.dn, den_sc hl h.1, den_sc hl h.2]
  | .szok x y, n, hl, h => by
    simp only [E.sc, Bool.and_eq_true] at h
    simp only [E.dn, den_sc hl h.1, den_sc hl h.2]
  | .nil, _, _, _ => rfl
  | .cons x y, n, hl, h => by
    simp only [E.sc, Bool.and_eq_true] at h
    simp only [E.dn, den_sc hl h.1, den_sc hl h.2]
  | .app f a i, n, hl, h => by
    simp only [E.sc] at h
    simp only [E.dn, den_sc hl h]
theorem Cell.rel_ext {c : Cell} {ext : List Sc} {n : Nat} (hl : ρ.length = n) (h : c.scE n = true) (y : Value) : c.rel Φ (ρ ++ ext) β y ↔ c.rel Φ ρ β y := by
  cases c with
  | int k e => simp only [Cell.rel, E.den, den_sc hl (show e.sc n = true from h)]
  | bool e => simp only [Cell.rel, E.den, den_sc hl (show e.sc n = true from h)]
  | str e => simp only [Cell.rel, E.den, den_sc hl (show e.sc n = true from h)]
  | _ => exact Iff.rfl
theorem Rel2.iff {α β : Type} {R R' : α → β → Prop} : ∀ {asq : List α} {bs : List β}, (∀ a ∈ asq, ∀ b, R a b ↔ R' a b) → (Rel2 R asq bs ↔ Rel2 R' asq bs)
  | [], [], _ => Iff.rfl
  | a :: asq, b :: bs, h => by
    simp only [Rel2]
    rw [h a (by simp) b, Rel2.iff fun a' ha' => h a' (by simp [ha'])]
  | [], _ :: _, _ => Iff.rfl
  | _ :: _, [], _ => Iff.rfl
theorem AV.rel_ext {c : AV} {ext : List Sc} {n : Nat} (hl : ρ.length = n) (h : c.scE n = true) (y : Value) : c.rel Φ (ρ ++ ext) β y ↔ c.rel Φ ρ β y := by
  cases c with
  | c x => exact Cell.rel_ext hl h y
  | agg cs =>
    simp only [AV.scE, List.all_eq_true] at h
    exact exists_congr fun vs => and_congr Iff.rfl (Rel2.iff fun c hc y => Cell.rel_ext hl (h c hc) y)
theorem TV.rel_ext {c : TV} {ext : List Sc} {n : Nat} (hl : ρ.length = n) (h : c.scE n = true) (y : Value) : c.rel Φ (ρ ++ ext) β y ↔ c.rel Φ ρ β y := by
  cases c with
  | av x => exact AV.rel_ext hl h y
  | tup cs =>
    simp only [TV.scE, List.all_eq_true] at h
    exact exists_congr fun vs => and_congr Iff.rfl (Rel2.iff fun c hc y => AV.rel_ext hl (h c hc) y)
end
end Go.Sx
