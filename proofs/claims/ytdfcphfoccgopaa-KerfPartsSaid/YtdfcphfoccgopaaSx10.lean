/- A symbolic executor over the loaded program of a seat: a region in the order of the text. -/
import Derived.Test.YtdfcphfoccgopaaSx9
import Derived.ArgAppend
namespace Go.Sx
open Go.RowKit (Below)
set_option linter.unusedVariables false
set_option linter.unusedSimpArgs false

section
variable {C : Cfg} {Φ : Ctx} {w0 : World}
def CallOk (C : Cfg) (Φ : Ctx) (w0 : World) (call : Nat → List TV → St → T) : Prop :=
  ∀ f args σ ρ Q, (call f args σ).holds Φ ρ Q → ρ.length = σ.nv → FactsOk Φ ρ σ.facts → ∀ β w, Inv Φ ρ w0 β (viewOf [] σ.heap) β ⟨#[], []⟩ w → ∀ vals, Rel2 (TV.rel Φ ρ β) args vals →
    Calls C.P f vals.toArray w fun e w' => ∃ tv σ' ρ' β' y, e = .returned y ∧ Q (.ret tv σ') ρ' ∧ ρ <+: ρ' ∧ ρ'.length = σ'.nv ∧ FactsOk Φ ρ' σ'.facts ∧ tv.rel Φ ρ' β' y ∧
      Inv Φ ρ' w0 β (viewOf [] σ'.heap) β' ⟨#[], []⟩ w'
theorem Inv.mem {ρ : List Sc} {β0 β : Bij} {tm : List TV} {heap : List (Option Blk)} {a : Act} {w : World} (h : Inv Φ ρ w0 β0 (viewOf tm heap) β a w) : Inv Φ ρ w0 β (viewOf [] heap) β ⟨#[], []⟩ w :=
  ⟨fun t x hx => by simp [viewOf] at hx, rfl, h.ty, h.cty, h.inj, h.dom, Bij.le_refl β, h.below, h.sz, h.gg⟩
theorem Inv.join {ρ ρ' : List Sc} {β0 β β' : Bij} {tm : List TV} {heap heap' : List (Option Blk)} {a : Act} {w w' : World} (h : Inv Φ ρ w0 β0 (viewOf tm heap) β a w) (h' : Inv Φ ρ' w0 β (viewOf [] heap') β' ⟨#[], []⟩ w')
    (htm : ∀ (t : Nat) (x : TV), tm[t]? = some x → ∀ y, x.rel Φ ρ β y → x.rel Φ ρ' β' y) : Inv Φ ρ' w0 β0 (viewOf tm heap') β' a w' := by
  refine ⟨fun t x hx => ?_, h.defers, h'.ty, h'.cty, h'.inj, h'.dom, Bij.le_trans h.ext h'.ext, h'.below, h'.sz, h.gg⟩
  obtain ⟨y, hy, hr⟩ := h.tm t x hx
  exact ⟨y, hy, htm t x hx y hr⟩
theorem inlOf_sound {op : Op} {vs : List TV} {f : Nat} {args : List TV} (h : inlOf C op vs = some (f, args)) {ρ : List Sc} {β : Bij} {a : Act} (hvs : Rel2 (TV.rel Φ ρ β) vs (op.operands.toList.map a.eval)) :
    ∃ vals, Rel2 (TV.rel Φ ρ β) args vals ∧ ∀ (dst : Option Tmp) (type : TypeId) (pos : String) (after : Array Edge) (guard : Option (Nat × Bool)) (w : World),
      (execOp a.eval (⟨dst, op, type, pos, after, guard⟩ : Oper)).run C.P w = .ok (.enter f vals.toArray) w := by
  unfold inlOf at h
  split at h
  · rename_i fx args0 argTypes f' caps r
    split at h
    · rename_i hc
      simp only [Option.some.injEq, Prod.mk.injEq] at h
      obtain ⟨rfl, rfl⟩ := h
      simp only [Bool.and_eq_true] at hc
      have hops : (Op.call { callee := .value fx, args := args0, argTypes := argTypes }).operands.toList.map a.eval = a.eval fx :: args0.toList.map a.eval := by simp [Op.operands, Call.operands]
      rw [hops] at hvs
      obtain ⟨⟨cvs, hfx, hcaps⟩, hargs⟩ := hvs
      refine ⟨args0.toList.map a.eval ++ cvs, hargs.append ?_, ?_⟩
      · revert hcaps
        generalize caps = cs
        clear hfx
        induction cs generalizing cvs with
        | nil => cases cvs with
          | nil => exact fun _ => trivial
          | cons _ _ => exact fun h => h.elim
        | cons c cs ih => cases cvs with
          | nil => exact fun h => h.elim
          | cons x xs => exact fun h => ⟨h.1, ih xs h.2⟩
      · intro dst type pos after guard w
        have hcl := hc.2
        unfold callable at hcl
        cases hfn : C.P.funcs[f']? with
        | none => simp [hfn] at hcl
        | some fn =>
          simp only [hfn, Bool.and_eq_true, Bool.not_eq_true'] at hcl
          have hne : ¬ fn.name = "runtime.NumGoroutine" := by simpa using hcl.1
          have hbn : ¬ fn.body = none := by intro hb; rw [hb] at hcl; simp at hcl
          have harr : args0.map a.eval ++ cvs.toArray = (args0.toList.map a.eval ++ cvs).toArray := Array.ext' (by simp)
          simp only [execOp, _root_.Go.resolve, Deferred.ofValue, Sem.run_bind, Sem.run_pure, Result.andThen_ok]
          rw [show a.eval fx = Value.func (.func f') #[] cvs.toArray from hfx]
          simp only [Sem.run_pure, Result.andThen_ok, invoke, Array.empty_append, harr, callFunc, Sem.run_bind, run_program, hfn]
          simp [hne, hbn]
    · cases h
  · cases h
/-! ### 'append' -/
def View.app (v : View) (src : Option Nat) (id : Nat) (blk : Blk) : View :=
  { v with cell := fun b o => if b = id then blk.cells[o]? else if src = some b then none else v.cell b o, ty := fun b => if b = id then some blk.ty else v.ty b }
theorem Inv.app {ρ : List Sc} {β0 β : Bij} {v : View} {a : Act} {w : World} (h : Inv Φ ρ w0 β0 v β a w) {id : Nat} (hid : v.ty id = none) {src : Option Nat} {blk : Blk} {w' : World} {g : Nat} {cur : Array Value}
    (hcur : w'.heap[g]? = some (.cells cur blk.ty (0, 0))) (hcells : ∀ (o : Nat) (c : Cell), blk.cells[o]? = some c → ∃ y, cur[o]? = some y ∧ c.rel Φ ρ β y) (hg : w0.heap.size ≤ g)
    (hbel : Below w0.heap.size w0 w') (hother : ∀ k, k < w.heap.size → k ≠ g → w'.heap[k]? = w.heap[k]?)
    (hcase : w.heap.size ≤ g ∨ ∃ b cs0, src = some b ∧ β b = some g ∧ w.heap[g]? = some (.cells cs0 blk.ty (0, 0)) ∧ cur.size = cs0.size ∧ ∃ o c, v.cell b o = some c) :
    Bij.le β (β.ext id g cur.size) ∧ Inv Φ ρ w0 β0 (v.app src id blk) (β.ext id g cur.size) a w' := by
  have hnone : β id = none := by
    cases hb : β id with
    | none => rfl
    | some n => obtain ⟨T, hT⟩ := h.dom _ _ hb; rw [hid] at hT; cases hT
  have hle : Bij.le β (β.ext id g cur.size) := by
    intro b n hb
    by_cases e : b = id
    · subst e; rw [hnone] at hb; cases hb
    · simp [Bij.ext_m, Bij.ext_sz, e, hb]
  have hcellv : ∀ b o c, b ≠ id → (v.app src id blk).cell b o = some c → v.cell b o = some c ∧ src ≠ some b := by
    intro b o c hb hc
    simp only [View.app, if_neg hb] at hc
    split at hc
    · cases hc
    · rename_i hs; exact ⟨hc, hs⟩
  have hnog : ∀ b o c, b ≠ id → (v.app src id blk).cell b o = some c → β b ≠ some g := by
    intro b o c hb hc hβ
    obtain ⟨hc', hs⟩ := hcellv b o c hb hc
    rcases hcase with hlt | ⟨b0, cs0, rfl, hb0, _, _, o0, c0, hc0⟩
    · have := h.lt hβ; omega
    · exact hs (by rw [h.inj _ _ _ _ _ _ _ hc' hc0 hβ hb0])
  refine ⟨hle, ⟨?_, h.defers, ?_, ?_, ?_, ?_, ?_, hbel, ?_, h.gg⟩⟩
  · intro t x hx
    obtain ⟨y, hy, hr⟩ := h.tm t x hx
    exact ⟨y, hy, hr.mono hle⟩
  · intro b T hT
    by_cases e : b = id
    · subst e
      simp [View.app] at hT
      subst hT
      refine ⟨g, cur, by simp [Bij.ext_m], hcur, hg, ?_⟩
      intro o c hoc
      simp [View.app] at hoc
      obtain ⟨y, hy, hr⟩ := hcells o c hoc
      exact ⟨y, hy, hr.mono hle⟩
    · simp [View.app, e] at hT
      obtain ⟨n, cs', hn, hh, hB, hc'⟩ := h.ty b T hT
      by_cases hng : n = g
      · subst hng
        have hT' : T = blk.ty := by
          rcases hcase with hlt | ⟨b0, cs0, _, _, hcs0, _⟩
          · have := h.lt hn; omega
          · rw [hcs0] at hh; cases hh; rfl
        subst hT'
        refine ⟨n, cur, by simp [Bij.ext_m, e, hn], hcur, hB, ?_⟩
        intro o c hoc
        exact absurd hn (hnog b o c e hoc)
      · refine ⟨n, cs', by simp [Bij.ext_m, e, hn], by rw [hother n (h.lt hn) hng]; exact hh, hB, ?_⟩
        intro o c hoc
        obtain ⟨y, hy, hr⟩ := hc' o c (hcellv b o c e hoc).1
        exact ⟨y, hy, hr.mono hle⟩
  · intro b o c hoc
    by_cases e : b = id
    · exact ⟨blk.ty, by simp [View.app, e]⟩
    · obtain ⟨T, hT⟩ := h.cty b o c (hcellv b o c e hoc).1
      exact ⟨T, by simp [View.app, e, hT]⟩
  · intro b b' n o c o' c' hk hk' hb hb'
    by_cases e : b = id <;> by_cases e' : b' = id
    · rw [e, e']
    · simp [Bij.ext_m, e] at hb
      simp [Bij.ext_m, e'] at hb'
      subst hb
      exact absurd hb' (hnog b' o' c' e' hk')
    · simp [Bij.ext_m, e] at hb
      simp [Bij.ext_m, e'] at hb'
      subst hb'
      exact absurd hb (hnog b o c e hk)
    · simp [Bij.ext_m, e] at hb
      simp [Bij.ext_m, e'] at hb'
      exact h.inj _ _ _ _ _ _ _ (hcellv b o c e hk).1 (hcellv b' o' c' e' hk').1 hb hb'
  · intro b n hb
    by_cases e : b = id
    · exact ⟨blk.ty, by simp [View.app, e]⟩
    · simp [Bij.ext_m, e] at hb
      simp [View.app, e]
      exact h.dom _ _ hb
  · exact fun b n hb => ⟨(hle _ _ (h.ext _ _ hb).1).1, by rw [(hle _ _ (h.ext _ _ hb).1).2]; exact (h.ext _ _ hb).2⟩
  · intro b n cs' T hb hh
    by_cases e : b = id
    · subst e
      simp [Bij.ext_m] at hb
      subst hb
      rw [hcur] at hh
      cases hh
      simp [Bij.ext_sz]
    · simp [Bij.ext_m, e] at hb
      simp [Bij.ext_sz, e]
      by_cases hng : n = g
      · subst hng
        rw [hcur] at hh
        cases hh
        rcases hcase with hlt | ⟨b0, cs0, _, _, hcs0, hsz, _⟩
        · have := h.lt hb; omega
        · rw [hsz]; exact h.sz _ _ _ _ hb hcs0
      · rw [hother n (h.lt hb) hng] at hh
        exact h.sz _ _ _ _ hb hh
theorem kill_length (heap : List (Option Blk)) (s : Option Nat) : (kill heap s).length = heap.length := by
  cases s with
  | none => rfl
  | some b => simp only [kill]; split <;> simp
theorem viewOf_app {tm : List TV} {heap : List (Option Blk)} {src : Option Nat} {blk : Blk} : viewOf tm (kill heap src ++ [some blk]) = (viewOf tm heap).app src heap.length blk := by
  have hg : ∀ b, b ≠ heap.length → (kill heap src ++ [some blk])[b]? = (kill heap src)[b]? := by
    intro b hb
    by_cases hlt : b < heap.length
    · rw [List.getElem?_append_left (by rw [kill_length]; exact hlt)]
    · rw [List.getElem?_append_right (by rw [kill_length]; omega), List.getElem?_eq_none (l := kill heap src) (by rw [kill_length]; omega), List.getElem?_eq_none (by rw [kill_length]; simp; omega)]
  have hl : (kill heap src ++ [some blk])[heap.length]? = some (some blk) := by
    rw [List.getElem?_append_right (by rw [kill_length]; exact Nat.le_refl _), kill_length]; simp
  have hk : ∀ b, src ≠ some b → (kill heap src)[b]? = heap[b]? := by
    intro b hb
    cases src with
    | none => rfl
    | some s =>
      simp only [kill]
      have : s ≠ b := fun e => hb (by rw [e])
      split
      · simp [List.getElem?_set, this]
      · rfl
  simp only [viewOf, View.app]
  congr 1
  · funext b o
    by_cases e : b = heap.length
    · subst e; simp only [cellV, hl, if_true]
    · rw [if_neg e]
      by_cases hs : src = some b
      · rw [if_pos hs]
        subst hs
        simp only [cellV, hg b e]
        simp only [kill]
        cases hb : heap[b]? with
        | none => simp [hb]
        | some x =>
          cases x with
          | none => simp [hb]
          | some blk' =>
            have hlt : b < heap.length := (List.getElem?_eq_some_iff.1 hb).1
            simp [hlt]
      · rw [if_neg hs]
        simp only [cellV, hg b e, hk b hs]
  · funext b
    by_cases e : b = heap.length
    · subst e; simp only [tyV, hl, if_true]
    · rw [if_neg e]
      by_cases hs : src = some b
      · subst hs
        simp only [tyV, hg b e]
        simp only [kill]
        cases hb : heap[b]? with
        | none => simp [hb]
        | some x =>
          cases x with
          | none => simp [hb]
          | some blk' =>
            have hlt : b < heap.length := (List.getElem?_eq_some_iff.1 hb).1
            simp [hlt]
      · simp only [tyV, hg b e, hk b hs]
theorem rel_all {ρ : List Sc} {β : Bij} : ∀ {cs : List Cell} {ys : List Value}, Rel2 (Cell.rel Φ ρ β) cs ys → cs.all Cell.known = true → ∀ u ∈ ys, u.oneCell' = true
  | [], [], _, _ => by simp
  | c :: cs, y :: ys, h, hk => by
    simp only [List.all_cons, Bool.and_eq_true] at hk
    intro u hu
    rcases List.mem_cons.1 hu with rfl | hu
    · exact Cell.rel.oneCell hk.1 h.1
    · exact rel_all h.2 hk.2 u hu
  | [], _ :: _, h, _ => h.elim
  | _ :: _, [], h, _ => h.elim
theorem app_sound {ρ : List Sc} {β0 β : Bij} {tm : List TV} {heap : List (Option Blk)} {a : Act} {w : World} (hI : Inv Φ ρ w0 β0 (viewOf tm heap) β a w) {op : Op} {vs : List TV} {tv : TV} {src : Option Nat} {blk : Blk}
    (h : appOf C op vs heap = some (tv, src, blk)) (hvs : Rel2 (TV.rel Φ ρ β) vs (op.operands.toList.map a.eval)) :
    ∃ β' y w', (∀ (dst : Option Tmp) (type : TypeId) (pos : String) (after : Array Edge) (guard : Option (Nat × Bool)), (execOp a.eval (⟨dst, op, type, pos, after, guard⟩ : Oper)).run C.P w = .ok (.value y) w') ∧
      tv.rel Φ ρ β' y ∧ Inv Φ ρ w0 β0 (viewOf tm (kill heap src ++ [some blk])) β' a w' := by
  unfold appOf at h
  split at h
  · rename_i args t t' s b2 o2 k cap2
    split at h
    · rename_i e hu
      split at h
      · rename_i i z hi hz
        split at h
        · rename_i news hnews
          split at h
          · rename_i hc
            obtain ⟨rfl, hzl, hs0, hk0, hkn⟩ := hc
            obtain ⟨u, u2, hops, hr, hr2⟩ := rel2 hvs
            obtain ⟨n2, hb2, hu2⟩ := hr2
            have hu2' : u2 = .slice (some ⟨n2, o2, none⟩) k cap2 := hu2
            have hargs : args.map a.eval = #[u, u2] := Array.ext' (by simpa [Op.operands, Call.operands] using hops)
            obtain ⟨ie, zv, hie, hiz, hzr, _⟩ := zeroCells_sound hz Φ ρ β
            rw [hi] at hie
            cases hie
            have hzs : zv.cells.size = i.size := by have := hzr.length; simp only [Array.length_toList] at this; omega
            obtain ⟨hnl, hnc⟩ := readH_sound hnews
            obtain ⟨nys, hnr, hnra, _⟩ := hI.range hb2 hnc
            have hnyl : nys.length = k * i.size := by rw [← hnr.length, hnl]
            have hone := rel_all hnr hkn
            have hnews' : ∀ j x, nys[j]? = some x → w.cell? ((⟨n2, o2, none⟩ : Addr).add j) = some x := fun j x hx => by rw [Addr_add]; exact hnra j x hx
            have hrun : ∀ {y : Value} {w' : World}, (∀ ty, (Builtin.append_ #[t', t'] ty #[u, u2]).run C.P w = .ok y w') → ∀ (dst : Option Tmp) (type : TypeId) (pos : String) (after : Array Edge) (guard : Option (Nat × Bool)),
                (execOp a.eval (⟨dst, .call { callee := .builtin .append, args := args, argTypes := ⟨[t', t']⟩ }, type, pos, after, guard⟩ : Oper)).run C.P w = .ok (.value y) w' := by
              intro y w' hy dst type pos after guard
              simp only [execOp, _root_.Go.resolve, hargs, Sem.run_bind, Sem.run_pure, Result.andThen_ok, invoke, builtin]
              have hy' : (Builtin.append_ { toList := [t', t'] } type #[u, u2]).run C.P w = .ok y w' := hy type
              simp [hy']
            -- a new row
            have fresh : ∀ {m : Nat} {olds : List Cell} {ys : List Value} {s0 : Option Nat}, Rel2 (Cell.rel Φ ρ β) olds ys → 0 < m →
                (∃ v' w', (∀ ty, (Builtin.append_ #[t', t'] ty #[u, u2]).run C.P w = .ok v' w') ∧ w'.ownsRow w.heap.size e i.size v' m (ys ++ nys) ∧ w.grownBy w' none) →
                ∃ β' y w', (∀ (dst : Option Tmp) (type : TypeId) (pos : String) (after : Array Edge) (guard : Option (Nat × Bool)), (execOp a.eval (⟨dst, .call { callee := .builtin .append, args := args, argTypes := ⟨[t', t']⟩ }, type, pos, after, guard⟩ : Oper)).run C.P w = .ok (.value y) w') ∧
                  (TV.ce (.vec heap.length m i.size)).rel Φ ρ β' y ∧ Inv Φ ρ w0 β0 (viewOf tm (kill heap s0 ++ [some ⟨olds ++ news, e⟩])) β' a w' := by
              rintro m olds ys s0 hor hm ⟨v', w', hrun', ⟨hol, hown⟩, hgr⟩
              rcases hown with ⟨_, h0⟩ | ⟨g, cap, cur, rfl, hg, hcur, hle, hmax, hcsz, htake⟩
              · omega
              · have hcells : ∀ (o : Nat) (c : Cell), (olds ++ news)[o]? = some c → ∃ y, cur[o]? = some y ∧ c.rel Φ ρ β y := by
                  intro o c hoc
                  obtain ⟨y, hy, hyr⟩ := (hor.append hnr).get hoc
                  refine ⟨y, ?_, hyr⟩
                  rw [← htake, List.getElem?_take] at hy
                  split at hy
                  · simpa using hy
                  · cases hy
                obtain ⟨hle', hI'⟩ := hI.app (id := heap.length) (src := s0) (blk := ⟨olds ++ news, e⟩) (w' := w') (g := g) (cur := cur) (by simp [viewOf, tyV]) hcur hcells (Nat.le_trans hI.below.size hg)
                  (hI.below.grown hgr hI.below.size (fun k hk => by cases hk)) (fun k hk _ => hgr.block k hk (by simp)) (.inl hg)
                refine ⟨β.ext heap.length g cur.size, _, _, hrun hrun', ⟨g, cap, by simp [Bij.ext_m], rfl, hle, hmax, by simp [Bij.ext_sz, hcsz]⟩, ?_⟩
                rw [viewOf_app]
                exact hI'
            have hmx : maxLen = 9223372036854775807 := rfl
            split at h
            · -- nil
              split at h
              · rename_i hb
                simp only [Option.some.injEq, Prod.mk.injEq] at h
                obtain ⟨rfl, rfl, rfl⟩ := h
                have hun : u = .slice none 0 0 := hr
                have hx : ∃ v' w', (∀ ty, (Builtin.append_ #[t', t'] ty #[u, u2]).run C.P w = .ok v' w') ∧ w'.ownsRow w.heap.size e i.size v' k ([] ++ nys) ∧ w.grownBy w' none := by
                  obtain ⟨v', w', h1, h2, h3, _⟩ := run_append_own (P := C.P) (w := w) w.heap.size t' t' e i zv i.size i.bytes hu hi hiz rfl rfl hzs hs0 (.slice none 0 0) 0 [] ⟨by simp, .inl ⟨rfl, rfl⟩⟩ ⟨n2, o2, none⟩ k cap2 nys hnyl hnews' hone (by rw [hmx]; omega) (by rw [Nat.zero_add]; omega) (Nat.le_refl _)
                  refine ⟨v', w', fun ty => ?_, by simpa using h2, h3⟩
                  rw [hun, hu2']
                  rw [← h1]
                  rfl
                simpa using fresh (olds := []) (ys := []) (s0 := none) trivial hk0 hx
              · cases h
            · -- a literal
              rename_i b n cap
              split at h
              · rename_i olds holds
                split at h
                · rename_i hb
                  simp only [Option.some.injEq, Prod.mk.injEq] at h
                  obtain ⟨rfl, rfl, rfl⟩ := h
                  obtain ⟨nb, hβb, hub⟩ := hr
                  have hub' : u = .slice (some ⟨nb, 0, none⟩) n cap := hub
                  obtain ⟨hol, hoc⟩ := readH_sound holds
                  obtain ⟨oys, hor, hora, _⟩ := hI.range hβb hoc
                  have hoyl : oys.length = n * i.size := by rw [← hor.length, hol]
                  refine fresh (s0 := none) hor (by omega) ?_
                  obtain ⟨v', w', h1, h2, h3⟩ := run_append_arg_grows (P := C.P) (w := w) t' t' e i zv i.size i.bytes hu hi hiz rfl rfl hzs hs0 ⟨nb, 0, none⟩ n cap oys hoyl (fun j x hx => by rw [Addr_add]; exact hora j x hx) ⟨n2, o2, none⟩ k cap2 nys hnyl hnews' hb.1 (by rw [hmx]; omega) (by omega)
                  refine ⟨v', w', fun ty => ?_, h2, h3⟩
                  rw [hub', hu2', ← h1]
                  rfl
                · cases h
              · cases h
            · -- a slice that has grown
              rename_i b n s'
              split at h
              · rename_i olds T holds hT
                split at h
                · rename_i hb
                  simp only [Option.some.injEq, Prod.mk.injEq] at h
                  obtain ⟨rfl, rfl, rfl⟩ := h
                  obtain ⟨rfl, rfl, hn0, hne, hb1, hb3⟩ := hb
                  obtain ⟨nb, cap, hβb, hub, hncap, hcmax, hcsz⟩ := hr
                  have hub' : u = .slice (some ⟨nb, 0, none⟩) n cap := hub
                  obtain ⟨hol, hoc⟩ := readH_sound holds
                  obtain ⟨oys, hor, hora, hoth⟩ := hI.range hβb hoc
                  have hoyl : oys.length = n * i.size := by rw [← hor.length, hol]
                  by_cases hroom : n + k ≤ cap
                  · -- in place
                    obtain ⟨nb', cs0, hβb', hh, hBn, hcl⟩ := hI.ty b T (by simpa [viewOf] using hT)
                    rw [hβb] at hβb'
                    cases hβb'
                    have hsz0 := hI.sz _ _ _ _ hβb hh
                    have hcs0 : cs0.size = cap * i.size := by rw [← hsz0, hcsz]
                    have hfit : n * i.size + k * i.size ≤ cap * i.size := by rw [← Nat.add_mul]; exact Nat.mul_le_mul_right _ hroom
                    obtain ⟨cur, hc1, hc2, hc3⟩ := heap_setCells nb nys (0 + n * i.size) w cs0 T (0, 0) hh
                    have hcell : ∀ j, w.cell? ⟨nb, j, none⟩ = cs0[j]? := by intro j; simp [World.cell?, hh]
                    have h1 := run_append_room_cells (P := C.P) (w := w) t' t' T i hu hi nb 0 n cap ⟨n2, o2, none⟩ k cap2 nys hnyl hnews' hone hroom (fun j hj => by rw [hcell]; simp; omega) (fun j hj => by simp [World.frozen?, hh])
                    have hcells : ∀ (o : Nat) (c : Cell), (olds ++ news)[o]? = some c → ∃ y, cur[o]? = some y ∧ c.rel Φ ρ β y := by
                      intro o c hoc'
                      obtain ⟨y, hy, hyr⟩ := (hor.append hnr).get hoc'
                      refine ⟨y, ?_, hyr⟩
                      rw [hc3]
                      have hlt := (List.getElem?_eq_some_iff.1 hy).1
                      rw [List.length_append, hoyl, hnyl] at hlt
                      by_cases ho : o < n * i.size
                      · rw [if_neg (by omega)]
                        rw [List.getElem?_append_left (by omega)] at hy
                        have := hora o y hy
                        rw [hcell] at this
                        simpa using this
                      · rw [if_pos (by omega)]
                        rw [List.getElem?_append_right (by omega), hoyl] at hy
                        simpa using hy
                    obtain ⟨c0, hc0⟩ : ∃ c0, olds[0]? = some c0 := ⟨olds[0]'(by rw [hol]; exact Nat.mul_pos hn0 hs0), List.getElem?_eq_getElem _⟩
                    obtain ⟨hle', hI'⟩ := hI.app (id := heap.length) (src := some b) (blk := ⟨olds ++ news, T⟩) (w' := w.setCells nb (0 + n * i.size) nys) (g := nb) (cur := cur) (by simp [viewOf, tyV]) hc1 hcells hBn
                      (below_setCells nb hBn _ _ _ hI.below) (fun j _ hj => heap_setCells_ne _ _ _ _ _ hj) (.inr ⟨b, cs0, rfl, hβb, hh, hc2, 0, c0, by simpa [viewOf] using hoc 0 c0 hc0⟩)
                    refine ⟨β.ext heap.length nb cur.size, _, _, hrun (y := .slice (some ⟨nb, 0, none⟩) (n + k) cap) (w' := w.setCells nb (0 + n * i.size) nys) (fun ty => by rw [hub', hu2', ← h1]; rfl), ⟨nb, cap, by simp [Bij.ext_m], rfl, hroom, hcmax, by simp [Bij.ext_sz, hc2, hcs0]⟩, ?_⟩
                    rw [viewOf_app]
                    exact hI'
                  · refine fresh (s0 := some b) hor (by omega) ?_
                    obtain ⟨v', w', h1, h2, h3⟩ := run_append_arg_grows (P := C.P) (w := w) t' t' T i zv i.size i.bytes hu hi hiz rfl rfl hzs hs0 ⟨nb, 0, none⟩ n cap oys hoyl (fun j x hx => by rw [Addr_add]; exact hora j x hx) ⟨n2, o2, none⟩ k cap2 nys hnyl hnews' (by omega) (by rw [hmx]; omega) (by omega)
                    refine ⟨v', w', fun ty => ?_, h2, h3⟩
                    rw [hub', hu2', ← h1]
                    rfl
                · cases h
              · cases h
            · cases h
          · cases h
        · cases h
      · cases h
    · cases h
  · cases h
theorem prefix_eq {α : Type} {l l' : List α} (h : l <+: l') (hl : l'.length = l.length) : l' = l := by
  obtain ⟨e, rfl⟩ := h
  cases e with
  | nil => simp
  | cons x e => simp at hl
theorem seq_sound (hcon : ∀ f sg, C.con f = some sg → Contract C.P f sg (Φ f)) {call : Nat → List TV → St → T} (hcall : CallOk C Φ w0 call) {ops : Array Oper} {Qt : Out → List Sc → Prop} {ρr : List Sc} {β0 : Bij} :
    ∀ (rest : List Oper) (i : Nat), ops.toList.drop i = rest → ∀ (σ : St) (ρ : List Sc) (β : Bij) (a : Act) (w : World), (seqOps C call ops.toList i rest σ).holds Φ ρ Qt → ρr <+: ρ → SInv Φ ρ w0 β0 σ β a w →
      wpOps C.P ops (PostOf Φ Qt ρr w0 β0) (List.range' i rest.length) a w
  | [], i, _, σ, ρ, β, a, w, h, hp, hS => ⟨.normal, σ, ρ, β, rfl, h, hp, hS⟩
  | o :: rest, i, hdrop, σ, ρ, β, a, w, h, hp, hS => by
    have ho : ops[i]? = some o := by
      have := congrArg (·[0]?) hdrop
      simpa using this
    have hdrop' : ops.toList.drop (i + 1) = rest := by
      rw [← List.drop_drop, hdrop]; rfl
    simp only [List.length_cons, List.range'_succ, wpOps, ho]
    unfold seqOps at h
    split at h
    · rename_i hd
      split at h
      · exact h.elim
      · rename_i hw
        rw [wantedA_sound hw hS.inv.tm]
        simp only [Bool.false_eq_true, if_false]
        refine seq_sound hcon hcall rest (i + 1) hdrop' _ ρ β _ w h hp ⟨?_, hS.facts, hS.len⟩
        rw [viewOf_put hd]
        exact hS.inv.put (dst_some hd) undef_rel
      · rename_i hw
        rw [wantedA_sound hw hS.inv.tm]
        simp only [if_true]
        left
        split at h
        · exact h.elim
        · rename_i vs hvs
          have hrel := mapM_eval hS.inv.tm hvs
          split at h
          · rename_i tv src blk happ
            obtain ⟨β', y, w', hrun, hy, hI'⟩ := app_sound hS.inv happ hrel
            obtain ⟨dst, op, type, pos, after, guard⟩ := o
            refine wp_val (hrun dst type pos after guard) ?_
            refine seq_sound hcon hcall rest (i + 1) hdrop' _ ρ β' _ w' h hp ⟨?_, hS.facts, hS.len⟩
            show Inv Φ ρ w0 β0 (viewOf (putA σ.tm dst tv) (kill σ.heap src ++ [some blk])) β' (a.put dst y) w'
            rw [viewOf_put hd]
            exact hI'.put (dst_some hd) hy
          split at h
          · rename_i f args hinl
            obtain ⟨vals, hargs, hrun⟩ := inlOf_sound hinl hrel
            have hc := hcall f args σ ρ _ (bindT_holds h) hS.len hS.facts β w hS.inv.mem vals hargs
            unfold Oper.wp
            obtain ⟨dst, op, type, pos, after, guard⟩ := o
            rw [hrun]
            refine hc.mono fun e w' he => ?_
            obtain ⟨tv, σ', ρ', β', y, rfl, hQ, hpre, hlen, hfacts, hy, hI'⟩ := he
            simp only [bindQ] at hQ
            split at hQ
            · rename_i hsc
              have htm : ∀ (t : Nat) (x : TV), σ.tm[t]? = some x → ∀ y, x.rel Φ ρ β y → x.rel Φ ρ' β' y := by
                intro t x hx y hr
                have hr' := TV.rel.mono hI'.ext hr
                rcases hsc with hsc | hsc
                · have : ρ' = ρ := prefix_eq hpre (by rw [hlen, hsc, hS.len])
                  rw [this]; exact hr'
                · obtain ⟨ext, rfl⟩ := hpre
                  exact (TV.rel_ext hS.len (List.all_eq_true.1 hsc x (List.mem_of_getElem? hx)) y).2 hr'
              refine seq_sound hcon hcall rest (i + 1) hdrop' _ ρ' β' _ w' hQ (hp.trans hpre) ⟨?_, hfacts, hlen⟩
              show Inv Φ ρ' w0 β0 (viewOf (putA σ.tm dst tv) σ'.heap) β' (a.put dst y) w'
              rw [viewOf_put hd]
              exact (hS.inv.join hI' htm).put (dst_some hd) hy
            · exact hQ.elim
          · obtain ⟨fs', tv, eff, hf', hT, hgood, heff⟩ := opR_sound hcon (toT_holds h) hS.facts w0
            have hview : ∀ tm, viewOf tm (σ.heap ++ [none]) = viewOf tm σ.heap := fun tm => getD_none_view σ.heap 1 tm
            refine hgood β0 _ β a w hS.inv (dst_some hd) hrel (fun b off n cs hfoot hmem => ?_) ?_ _ _ fun β' a' w' hle hI => ?_
            · unfold memOf at hmem
              rw [hfoot, Option.bind_some] at hmem
              exact readH_sound hmem
            · simp [viewOf, tyV]
            · refine seq_sound hcon hcall rest (i + 1) hdrop' _ ρ β' a' w' hT hp ⟨?_, hf', hS.len⟩
              simp only
              have hv : viewOf (putA σ.tm o.dst tv) (eff.apply (if eff.isNew then σ.heap ++ [none] else σ.heap)) = ((viewOf σ.tm σ.heap).put o.dst tv).eff eff := by
                rw [← viewOf_put hd]
                cases eff with
                | no => rfl
                | new id b =>
                  simp only [Eff.isNew, if_true]
                  obtain rfl : id = σ.heap.length := heff
                  rw [viewOf_eff (C := C) (op := o.op) (vs := vs) (heap := σ.heap ++ [none]) (id := σ.heap.length) (eff := .new σ.heap.length b) (by simp) rfl, hview]
                | wr b off cs =>
                  simp only [Eff.isNew, Bool.false_eq_true, if_false]
                  have hlt : 0 < σ.heap.length := by
                    obtain ⟨hfoot, old, hold, _⟩ := heff
                    unfold memOf at hold
                    rw [hfoot, Option.bind_some] at hold
                    simp only [readH] at hold
                    split at hold
                    · rename_i blk hb
                      have := (List.getElem?_eq_some_iff.1 hb).1
                      omega
                    · cases hold
                  exact viewOf_eff (C := C) (op := o.op) (vs := vs) (id := 0) hlt heff
              rw [hv]
              exact hI
    · exact h.elim
end
end Go.Sx
