/- A symbolic executor over the loaded program of a seat: loops. -/
import Derived.Test.YtdfcphfoccgopaaSx12
import Derived.LoopN
namespace Go.Sx
open Go.RowKit (Below)
set_option linter.unusedVariables false
set_option linter.unusedSimpArgs false

section
variable {C : Cfg} {Φ : Ctx} {w0 : World}
/-! ### What lives on under a longer environment and a smaller map of blocks -/
theorem Rel2.imp {α β : Type} {R R' : α → β → Prop} : ∀ {asq : List α} {bs : List β}, (∀ a ∈ asq, ∀ b, R a b → R' a b) → Rel2 R asq bs → Rel2 R' asq bs
  | [], [], _, _ => trivial
  | a :: asq, b :: bs, h, hr => ⟨h a (by simp) b hr.1, Rel2.imp (fun a' ha' => h a' (by simp [ha'])) hr.2⟩
  | [], _ :: _, _, h => h.elim
  | _ :: _, [], _, h => h.elim
theorem Cell.rel_sc {ρ ext1 ext2 : List Sc} {n : Nat} {live : Nat → Bool} {β β' : Bij} (hl : ρ.length = n) (hb : ∀ b, live b = true → β' b = β b) (hz : β'.sz = β.sz) {c : Cell} (h : c.sc n live = true) {y : Value}
    (hr : c.rel Φ (ρ ++ ext1) β y) : c.rel Φ (ρ ++ ext2) β' y := by
  cases c with
  | int k e => have h : e.sc n = true := h; simp only [Cell.rel, E.den, den_sc hl h] at hr ⊢; exact hr
  | bool e => have h : e.sc n = true := h; simp only [Cell.rel, E.den, den_sc hl h] at hr ⊢; exact hr
  | str e => have h : e.sc n = true := h; simp only [Cell.rel, E.den, den_sc hl h] at hr ⊢; exact hr
  | ptr b o => obtain ⟨m, hm, hv⟩ := hr; exact ⟨m, by rw [hb b h]; exact hm, hv⟩
  | sl b o l c => obtain ⟨m, hm, hv⟩ := hr; exact ⟨m, by rw [hb b h]; exact hm, hv⟩
  | vec b l s => obtain ⟨m, cap, hm, hv, h1, h2, h3⟩ := hr; exact ⟨m, cap, by rw [hb b h]; exact hm, hv, h1, h2, by rw [hz]; exact h3⟩
  | fn f caps =>
    obtain ⟨vs, hv, hc⟩ := hr
    refine ⟨vs, hv, ?_⟩
    have h : caps.all (fun p => live p.1) = true := h
    rw [List.all_eq_true] at h
    exact hc.imp fun p hp y ⟨m, hm, hv⟩ => ⟨m, by rw [hb p.1 (h p hp)]; exact hm, hv⟩
  | _ => exact hr
theorem AV.rel_sc {ρ ext1 ext2 : List Sc} {n : Nat} {live : Nat → Bool} {β β' : Bij} (hl : ρ.length = n) (hb : ∀ b, live b = true → β' b = β b) (hz : β'.sz = β.sz) {c : AV} (h : c.sc n live = true) {y : Value}
    (hr : c.rel Φ (ρ ++ ext1) β y) : c.rel Φ (ρ ++ ext2) β' y := by
  cases c with
  | c x => exact Cell.rel_sc hl hb hz h hr
  | agg cs =>
    obtain ⟨vs, hv, hc⟩ := hr
    simp only [AV.sc, List.all_eq_true] at h
    exact ⟨vs, hv, hc.imp fun c hc y hy => Cell.rel_sc hl hb hz (h c hc) hy⟩
theorem TV.rel_sc {ρ ext1 ext2 : List Sc} {n : Nat} {live : Nat → Bool} {β β' : Bij} (hl : ρ.length = n) (hb : ∀ b, live b = true → β' b = β b) (hz : β'.sz = β.sz) {c : TV} (h : c.sc n live = true) {y : Value}
    (hr : c.rel Φ (ρ ++ ext1) β y) : c.rel Φ (ρ ++ ext2) β' y := by
  cases c with
  | av x => exact AV.rel_sc hl hb hz h hr
  | tup cs =>
    obtain ⟨vs, hv, hc⟩ := hr
    simp only [TV.sc, List.all_eq_true] at h
    exact ⟨vs, hv, hc.imp fun c hc y hy => AV.rel_sc hl hb hz (h c hc) hy⟩

/-! ### The slots and cells that a loop changes -/
theorem scalarOf_rel {k : K} {c : Cell} {e : E} (h : scalarOf k c = some e) {ρ ρ2 : List Sc} {β β' : Bij} {i : Nat} (hv : ρ2.getD i (.int 0) = e.den Φ ρ) {y : Value} (hr : c.rel Φ ρ β y) : (k.cell (.var i)).rel Φ ρ2 β' y := by
  unfold scalarOf at h
  have hd : (E.var i).den Φ ρ2 = e.den Φ ρ := hv
  split at h
  · split at h
    · rename_i k' e' _ k'' 
      split at h
      · rename_i hk
        subst hk
        cases h
        show y = .int _ ((E.var i).den Φ ρ2).toInt
        rw [hd]
        exact hr
      · cases h
    · cases h
  · split at h
    · cases h
      show y = .bool ((E.var i).den Φ ρ2).toBool
      rw [hd]
      exact hr
    · cases h
  · cases h
theorem modVals_get {σ : St} : ∀ {mods : List (Nat × K)} {es : List E}, modVals σ mods = some es → es.length = mods.length ∧ ∀ (i t : Nat) (k : K), mods[i]? = some (t, k) → ∃ (c : Cell) (e : E), σ.tm[t]? = some (TV.ce c) ∧ scalarOf k c = some e ∧ es[i]? = some e
  | [], es, h => by simp [modVals] at h; subst h; exact ⟨rfl, fun i t k h => by simp at h⟩
  | (t, k) :: r, es, h => by
    simp only [modVals] at h
    split at h
    · rename_i c es' ht hr
      cases hs : scalarOf k c with
      | none => simp [hs] at h
      | some e =>
        simp [hs] at h
        subst h
        obtain ⟨hl, hg⟩ := modVals_get hr
        refine ⟨by simp [hl], fun i t' k' hi => ?_⟩
        cases i with
        | zero => simp at hi; obtain ⟨rfl, rfl⟩ := hi; exact ⟨c, e, ht, hs, rfl⟩
        | succ i => obtain ⟨c', e', h1, h2, h3⟩ := hg i t' k' (by simpa using hi); exact ⟨c', e', h1, h2, by simpa using h3⟩
    · cases h
theorem cellVals_get {heap : List (Option Blk)} : ∀ {mcs : List (Nat × Nat × K)} {es : List E}, cellVals heap mcs = some es → es.length = mcs.length ∧ ∀ (i b o : Nat) (k : K), mcs[i]? = some (b, o, k) → ∃ (c : Cell) (e : E), cellV heap b o = some c ∧ scalarOf k c = some e ∧ es[i]? = some e
  | [], es, h => by simp [cellVals] at h; subst h; exact ⟨rfl, fun i b o k h => by simp at h⟩
  | (b, o, k) :: r, es, h => by
    simp only [cellVals] at h
    split at h
    · rename_i c es' ht hr
      cases hs : scalarOf k c with
      | none => simp [hs] at h
      | some e =>
        simp [hs] at h
        subst h
        obtain ⟨hl, hg⟩ := cellVals_get hr
        refine ⟨by simp [hl], fun i b' o' k' hi => ?_⟩
        cases i with
        | zero =>
          simp at hi
          obtain ⟨rfl, rfl, rfl⟩ := hi
          have := (readH_sound ht).2 0 c (by simp)
          exact ⟨c, e, by simpa using this, hs, rfl⟩
        | succ i => obtain ⟨c', e', h1, h2, h3⟩ := hg i b' o' k' (by simpa using hi); exact ⟨c', e', h1, h2, by simpa using h3⟩
    · cases h
theorem setMods_length : ∀ (mods : List (Nat × K)) (tm : List TV) (n : Nat), (setMods tm n mods).length = tm.length
  | [], _, _ => rfl
  | (t, k) :: r, tm, n => by rw [setMods, setMods_length r]; simp
theorem setMods_get : ∀ (mods : List (Nat × K)) (tm : List TV) (n : Nat) {t : Nat} {x : TV}, (setMods tm n mods)[t]? = some x →
    (∃ (i : Nat) (k : K), mods[i]? = some (t, k) ∧ x = .ce (k.cell (.var (n + i)))) ∨ (tm[t]? = some x ∧ ∀ (i t' : Nat) (k : K), mods[i]? = some (t', k) → t' ≠ t)
  | [], tm, n, t, x, h => Or.inr ⟨h, fun i t' k h => by simp at h⟩
  | (t0, k0) :: r, tm, n, t, x, h => by
    rw [setMods] at h
    rcases setMods_get r _ _ h with ⟨i, k, hi, hx⟩ | ⟨hx, hne⟩
    · exact Or.inl ⟨i + 1, k, by simpa using hi, by rw [hx, show n + 1 + i = n + (i + 1) by omega]⟩
    · by_cases e : t0 = t
      · subst e
        have hlt : t0 < tm.length := by have := (List.getElem?_eq_some_iff.1 hx).1; simpa using this
        simp [hlt] at hx
        exact Or.inl ⟨0, k0, by simp, hx.symm⟩
      · rw [List.getElem?_set_ne e] at hx
        refine Or.inr ⟨hx, fun i t' k hi => ?_⟩
        cases i with
        | zero => simp at hi; exact hi.1 ▸ e
        | succ i => exact hne i t' k (by simpa using hi)
theorem setMcells_cell : ∀ (mcs : List (Nat × Nat × K)) (heap : List (Option Blk)) (n : Nat) {b o : Nat} {c : Cell}, cellV (setMcells heap n mcs) b o = some c →
    (∃ (i : Nat) (k : K), mcs[i]? = some (b, o, k) ∧ c = k.cell (.var (n + i))) ∨ (cellV heap b o = some c ∧ ∀ (i b' o' : Nat) (k : K), mcs[i]? = some (b', o', k) → (b', o') ≠ (b, o))
  | [], heap, n, b, o, c, h => Or.inr ⟨h, fun i b' o' k h => by simp at h⟩
  | (b0, o0, k0) :: r, heap, n, b, o, c, h => by
    rw [setMcells] at h
    rcases setMcells_cell r _ _ h with ⟨i, k, hi, hx⟩ | ⟨hx, hne⟩
    · exact Or.inl ⟨i + 1, k, by simpa using hi, by rw [hx, show n + 1 + i = n + (i + 1) by omega]⟩
    · by_cases e : (b0, o0) = (b, o)
      · simp only [Prod.mk.injEq] at e
        obtain ⟨rfl, rfl⟩ := e
        left
        refine ⟨0, k0, by simp, ?_⟩
        simp only [Eff.apply] at hx
        split at hx
        · rename_i blk hb
          have hlt : b0 < heap.length := (List.getElem?_eq_some_iff.1 hb).1
          simp only [cellV, List.getElem?_set_self hlt, setCellsA] at hx
          have hlt' : o0 < blk.cells.length := by have := (List.getElem?_eq_some_iff.1 hx).1; simpa using this
          rw [List.getElem?_set_self hlt'] at hx
          exact (Option.some.inj hx).symm
        · rename_i hnb
          exfalso
          simp only [cellV] at hx
          try split at hx
          all_goals first
            | (cases hx; done)
            | (rename_i blk hb; exact hnb blk hb)
      · right
        refine ⟨?_, fun i b' o' k hi => ?_⟩
        · simp only [Eff.apply] at hx
          split at hx
          · rename_i blk hb
            have hlt : b0 < heap.length := (List.getElem?_eq_some_iff.1 hb).1
            by_cases eb : b0 = b
            · subst eb
              have eo : o0 ≠ o := fun h => e (by rw [h])
              simp only [cellV, List.getElem?_set_self hlt, setCellsA, hb] at hx ⊢
              rwa [List.getElem?_set_ne eo] at hx
            · simp only [cellV, List.getElem?_set_ne eb] at hx ⊢
              exact hx
          · exact hx
        · cases i with
          | zero => simp at hi; obtain ⟨rfl, rfl, rfl⟩ := hi; exact e
          | succ i => exact hne i b' o' k (by simpa using hi)
theorem setMcells_ty : ∀ (mcs : List (Nat × Nat × K)) (heap : List (Option Blk)) (n b : Nat), tyV (setMcells heap n mcs) b = tyV heap b
  | [], _, _, _ => rfl
  | (b0, o0, k0) :: r, heap, n, b => by
    rw [setMcells, setMcells_ty r]
    simp only [Eff.apply]
    split
    · rename_i blk hb
      have hlt : b0 < heap.length := (List.getElem?_eq_some_iff.1 hb).1
      by_cases eb : b0 = b
      · subst eb
        simp only [tyV, List.getElem?_set_self hlt, hb]
      · simp only [tyV, List.getElem?_set_ne eb]
    · rfl
theorem forget_get : ∀ (ds : List Nat) (tm : List TV) {t : Nat} {x : TV}, (forget tm ds)[t]? = some x → x = .ce .unk ∨ tm[t]? = some x
  | [], tm, t, x, h => Or.inr h
  | d :: ds, tm, t, x, h => by
    rw [forget] at h
    rcases forget_get ds _ h with h | h
    · exact Or.inl h
    · by_cases e : d = t
      · subst e
        have hlt : d < tm.length := by have := (List.getElem?_eq_some_iff.1 h).1; simpa using this
        simp [hlt] at h
        exact Or.inl h.symm
      · rw [List.getElem?_set_ne e] at h
        exact Or.inr h
theorem fitsAll_get : ∀ {xs ys : List TV}, fitsAll xs ys = true → ∀ {t : Nat} {y : TV}, ys[t]? = some y → y = .ce .unk ∨ xs[t]? = some y
  | [], [], _, t, y, h => by simp at h
  | x :: xs, y :: ys, hf, 0, y', h => by
    simp at h
    subst h
    simp only [fitsAll, Bool.and_eq_true, TV.fits, Bool.or_eq_true, decide_eq_true_eq] at hf
    rcases hf.1 with h | h
    · exact Or.inr (by simp [h])
    · exact Or.inl h
  | x :: xs, y :: ys, hf, t + 1, y', h => by
    simp only [fitsAll, Bool.and_eq_true] at hf
    simpa using fitsAll_get hf.2 (t := t) (by simpa using h)
  | [], _ :: _, hf, _, _, _ => by simp [fitsAll] at hf
  | _ :: _, [], _, _, _, h => by simp at h
theorem heapFits_get : ∀ {xs ys : List (Option Blk)}, heapFits xs ys = true → ∀ {b : Nat} {blk : Blk}, ys[b]? = some (some blk) → ∃ blk', xs[b]? = some (some blk') ∧ blk'.cells = blk.cells ∧ blk'.ty = blk.ty
  | _, [], _, b, blk, h => by simp at h
  | x :: xs, y :: ys, hf, 0, blk, h => by
    simp at h
    subst h
    simp only [heapFits, Bool.and_eq_true] at hf
    cases x with
    | none => simp [blkFits] at hf
    | some x' => simp only [blkFits, Bool.and_eq_true, decide_eq_true_eq] at hf; exact ⟨x', by simp, hf.1⟩
  | x :: xs, y :: ys, hf, b + 1, blk, h => by
    simp only [heapFits, Bool.and_eq_true] at hf
    simpa using heapFits_get hf.2 (b := b) (by simpa using h)
  | [], _ :: _, hf, _, _, _ => by simp [heapFits] at hf
theorem heapFits_view {xs ys : List (Option Blk)} (h : heapFits xs ys = true) : (∀ b o c, cellV ys b o = some c → cellV xs b o = some c) ∧ ∀ b T, tyV ys b = some T → tyV xs b = some T := by
  constructor
  · intro b o c hc
    simp only [cellV] at hc
    split at hc
    · rename_i blk hb
      obtain ⟨blk', h1, h2, _⟩ := heapFits_get h hb
      simp only [cellV, h1, h2]
      exact hc
    · cases hc
  · intro b T hT
    simp only [tyV] at hT
    split at hT
    · rename_i blk hb
      obtain ⟨blk', h1, _, h3⟩ := heapFits_get h hb
      simp only [tyV, h1, h3]
      exact hT
    · cases hT
theorem cellV_ty {heap : List (Option Blk)} {b o : Nat} {c : Cell} (h : cellV heap b o = some c) : ∃ T, tyV heap b = some T := by
  simp only [cellV] at h
  split at h
  · rename_i blk hb; exact ⟨blk.ty, by simp only [tyV, hb]⟩
  · cases h
/-- At a loop's head: what is read there fits it. -/
theorem loop_inv {ρ e0 : List Sc} {σ' σL : St} {β0 β' : Bij} {a : Act} {w : World} {nv : Nat} {mods : List (Nat × K)} {mcs : List (Nat × Nat × K)} {es es' : List E} (hS : SInv Φ (ρ ++ e0) w0 β0 σ' β' a w) (hlen : ρ.length = nv)
    (hm : modVals σ' mods = some es) (hc : cellVals σ'.heap mcs = some es')
    (htm : ∀ (t : Nat) (x : TV), σL.tm[t]? = some x → (x = .ce .unk ∧ ∃ z, σ'.tm[t]? = some z) ∨ (∃ (i : Nat) (k : K), mods[i]? = some (t, k) ∧ x = .ce (k.cell (.var (nv + i)))) ∨ (σ'.tm[t]? = some x ∧ x.sc nv (fun b => (tyV σL.heap b).isSome) = true))
    (hcell : ∀ (b o : Nat) (c : Cell), cellV σL.heap b o = some c → (∃ (i : Nat) (k : K), mcs[i]? = some (b, o, k) ∧ c = k.cell (.var (nv + mods.length + i))) ∨ (cellV σ'.heap b o = some c ∧ c.sc nv (fun b => (tyV σL.heap b).isSome) = true))
    (hty : ∀ b T, tyV σL.heap b = some T → tyV σ'.heap b = some T) (hext : ∀ b n, β0 b = some n → (tyV σL.heap b).isSome = true)
    (hf : σL.facts.all (fun p => p.1.sc nv) = true) (hfacts : FactsOk Φ ρ σL.facts) (hnv : σL.nv = nv + mods.length + mcs.length) :
    ∃ β'', SInv Φ (ρ ++ (es ++ es').map (E.den Φ (ρ ++ e0))) w0 β0 σL β'' a w := by
  obtain ⟨hml, hmg⟩ := modVals_get hm
  obtain ⟨hcl, hcg⟩ := cellVals_get hc
  refine ⟨⟨fun b => if (tyV σL.heap b).isSome then β' b else none, β'.sz⟩, ⟨⟨fun t x hx => ?_, hS.inv.defers, fun b T hT => ?_, fun b o c h => cellV_ty h, fun b b' n o c o' c' hk hk' hb hb' => ?_, fun b n hb => ?_, fun b n hb => ?_, hS.inv.below, fun b n cs T hb hh => ?_, hS.inv.gg⟩, fun p hp => ?_, ?_⟩⟩
  · rcases htm t x hx with ⟨rfl, z, hz⟩ | ⟨i, k, hi, rfl⟩ | ⟨hx', hsc⟩
    · obtain ⟨y, hy, _⟩ := hS.inv.tm t z hz
      exact ⟨y, hy, trivial⟩
    · obtain ⟨c, e, h1, h2, h3⟩ := hmg i t k hi
      obtain ⟨y, hy, hr⟩ := hS.inv.tm t _ h1
      refine ⟨y, hy, scalarOf_rel h2 ?_ hr⟩
      have hlt : i < es.length := (List.getElem?_eq_some_iff.1 h3).1
      rw [List.getD_eq_getElem?_getD, List.getElem?_append_right (by omega), show nv + i - ρ.length = i by omega]
      rw [List.map_append, List.getElem?_append_left (by simpa using hlt), List.getElem?_map, h3]
      rfl
    · obtain ⟨y, hy, hr⟩ := hS.inv.tm t _ hx'
      exact ⟨y, hy, TV.rel_sc (β := β') (β' := ⟨fun b => if (tyV σL.heap b).isSome then β' b else none, β'.sz⟩) hlen (fun b hb => by simp [hb]) rfl hsc hr⟩
  · have hT : tyV σL.heap b = some T := hT
    obtain ⟨n, cs, hn, hh, hB, hcells⟩ := hS.inv.ty b T (hty b T hT)
    refine ⟨n, cs, by simp [hT, hn], hh, hB, fun o c hoc => ?_⟩
    have hoc : cellV σL.heap b o = some c := hoc
    rcases hcell b o c hoc with ⟨i, k, hi, rfl⟩ | ⟨hx', hsc⟩
    · obtain ⟨c, e, h1, h2, h3⟩ := hcg i b o k hi
      obtain ⟨y, hy, hr⟩ := hcells o c h1
      refine ⟨y, hy, scalarOf_rel h2 ?_ hr⟩
      have hlt : i < es'.length := (List.getElem?_eq_some_iff.1 h3).1
      rw [List.getD_eq_getElem?_getD, List.getElem?_append_right (by omega), show nv + mods.length + i - ρ.length = es.length + i by omega]
      rw [List.map_append, List.getElem?_append_right (by simp), List.getElem?_map, List.length_map, show es.length + i - es.length = i by omega, h3]
      rfl
    · obtain ⟨y, hy, hr⟩ := hcells o c hx'
      exact ⟨y, hy, Cell.rel_sc (β := β') (β' := ⟨fun b => if (tyV σL.heap b).isSome then β' b else none, β'.sz⟩) hlen (fun b hb => by simp [hb]) rfl hsc hr⟩
  · have key : ∀ {b o : Nat} {c : Cell}, cellV σL.heap b o = some c → ∃ c', cellV σ'.heap b o = some c' := by
      intro b o c hoc
      rcases hcell b o c hoc with ⟨i, k, hi, rfl⟩ | ⟨hx', _⟩
      · obtain ⟨c, e, h1, _, _⟩ := hcg i b o k hi
        exact ⟨c, h1⟩
      · exact ⟨c, hx'⟩
    obtain ⟨c1, hc1⟩ := key hk
    obtain ⟨c2, hc2⟩ := key hk'
    simp only at hb hb'
    split at hb
    · split at hb'
      · exact hS.inv.inj _ _ _ _ _ _ _ hc1 hc2 hb hb'
      · cases hb'
    · cases hb
  · simp only at hb
    split at hb
    · rename_i h
      exact Option.isSome_iff_exists.1 h
    · cases hb
  · simp only [hext b n hb, if_true]
    exact hS.inv.ext b n hb
  · simp only at hb
    split at hb
    · exact hS.inv.sz b n cs T hb hh
    · cases hb
  · have := List.all_eq_true.1 hf p hp
    rw [E.den, den_sc hlen this]
    exact hfacts p hp
  · simp only [List.length_append, List.length_map, hml, hcl, hlen, hnv]
    omega
end
end Go.Sx
