/- A symbolic executor over the loaded program of a seat: a region in the order of the text. -/
import Derived.Test.YtldnlbfchkdoiaaSx9
namespace Go.Sx
open Go.RowKit (Below)
set_option linter.unusedVariables false
set_option linter.unusedSimpArgs false

section
variable {C : Cfg} {Φ : Ctx} {w0 : World}
def CallOk (C : Cfg) (Φ : Ctx) (w0 : World) (call : Nat → List TV → St → T) : Prop :=
  ∀ f args σ ρ Q, (call f args σ).holds Φ ρ Q → ρ.length = σ.nv → FactsOk Φ ρ σ.facts → ∀ β w, Inv Φ ρ w0 β (viewOf [] σ.heap) β ⟨#[], []⟩ w → ∀ vals, Rel2 (TV.rel Φ ρ β) args vals →
    Calls C.P f vals.toArray w fun e w' => ∃ tv σ' ρ' β' y, e = .returned y ∧ Q (.ret tv σ') ρ' ∧ ρ <+: ρ' ∧ ρ'.length = σ'.nv ∧ FactsOk Φ ρ' σ'.facts ∧ tv.rel Φ ρ' β' y ∧
      Inv Φ ρ' w0 β (viewOf [] σ'.heap) β' ⟨#[], []⟩ w'
theorem Inv.mem {ρ : List Sc} {β0 β : Bij} {tm : List TV} {heap : List (Option Blk)} {a : Act} {w : World} (h : Inv Φ ρ w0 β0 (viewOf tm heap) β a w) : Inv Φ ρ w0 β (viewOf [] heap) β ⟨#[], []⟩ w :=
  ⟨fun t x hx => by simp [viewOf] at hx, rfl, h.ty, h.cty, h.inj, h.dom, Bij.le_refl β, h.below⟩
theorem Inv.join {ρ ρ' : List Sc} {β0 β β' : Bij} {tm : List TV} {heap heap' : List (Option Blk)} {a : Act} {w w' : World} (h : Inv Φ ρ w0 β0 (viewOf tm heap) β a w) (h' : Inv Φ ρ' w0 β (viewOf [] heap') β' ⟨#[], []⟩ w')
    (htm : ∀ (t : Nat) (x : TV), tm[t]? = some x → ∀ y, x.rel Φ ρ β y → x.rel Φ ρ' β' y) : Inv Φ ρ' w0 β0 (viewOf tm heap') β' a w' := by
  refine ⟨fun t x hx => ?_, h.defers, h'.ty, h'.cty, h'.inj, h'.dom, fun b n hb => h'.ext _ _ (h.ext _ _ hb), h'.below⟩
  obtain ⟨y, hy, hr⟩ := h.tm t x hx
  exact ⟨y, hy, htm t x hx y hr⟩
theorem inlOf_sound {op : Op} {vs : List TV} {f : Nat} {args : List TV} (h : inlOf C op vs = some (f, args)) {ρ : List Sc} {β : Bij} {a : Act} (hvs : Rel2 (TV.rel Φ ρ β) vs (op.operands.toList.map a.eval)) :
    ∃ vals, Rel2 (TV.rel Φ ρ β) args vals ∧ ∀ (dst : Option Tmp) (type : TypeId) (pos : String) (after : Array Edge) (guard : Option (Nat × Bool)) (w : World),
      (execOp a.eval (⟨dst, op, type, pos, after, guard⟩ : Oper)).run C.P w = .ok (.enter f vals.toArray) w := by
  unfold inlOf at h
  split at h
  · rename_i fx args0 argTypes f' caps r
    split at h
    · rename_i hc
      simp only [Option.some.injEq, Prod.mk.injEq] at h
      obtain ⟨rfl, rfl⟩ := h
      simp only [Bool.and_eq_true] at hc
      have hops : (Op.call { callee := .value fx, args := args0, argTypes := argTypes }).operands.toList.map a.eval = a.eval fx :: args0.toList.map a.eval := by simp [Op.operands, Call.operands]
      rw [hops] at hvs
      obtain ⟨⟨cvs, hfx, hcaps⟩, hargs⟩ := hvs
      refine ⟨args0.toList.map a.eval ++ cvs, hargs.append ?_, ?_⟩
      · revert hcaps
        generalize caps = cs
        clear hfx
        induction cs generalizing cvs with
        | nil => cases cvs with
          | nil => exact fun _ => trivial
          | cons _ _ => exact fun h => h.elim
        | cons c cs ih => cases cvs with
          | nil => exact fun h => h.elim
          | cons x xs => exact fun h => ⟨h.1, ih xs h.2⟩
      · intro dst type pos after guard w
        have hcl := hc.2
        unfold callable at hcl
        cases hfn : C.P.funcs[f']? with
        | none => simp [hfn] at hcl
        | some fn =>
          simp only [hfn, Bool.and_eq_true, Bool.not_eq_true'] at hcl
          have hne : ¬ fn.name = "runtime.NumGoroutine" := by simpa using hcl.1
          have hbn : ¬ fn.body = none := by intro hb; rw [hb] at hcl; simp at hcl
          have harr : args0.map a.eval ++ cvs.toArray = (args0.toList.map a.eval ++ cvs).toArray := Array.ext' (by simp)
          simp only [execOp, _root_.Go.resolve, Deferred.ofValue, Sem.run_bind, Sem.run_pure, Result.andThen_ok]
          rw [show a.eval fx = Value.func (.func f') #[] cvs.toArray from hfx]
          simp only [Sem.run_pure, Result.andThen_ok, invoke, Array.empty_append, harr, callFunc, Sem.run_bind, run_program, hfn]
          simp [hne, hbn]
    · cases h
  · cases h
theorem prefix_eq {α : Type} {l l' : List α} (h : l <+: l') (hl : l'.length = l.length) : l' = l := by
  obtain ⟨e, rfl⟩ := h
  cases e with
  | nil => simp
  | cons x e => simp at hl
theorem seq_sound (hcon : ∀ f sg, C.con f = some sg → Contract C.P f sg (Φ f)) {call : Nat → List TV → St → T} (hcall : CallOk C Φ w0 call) {ops : Array Oper} {Qt : Out → List Sc → Prop} {ρr : List Sc} {β0 : Bij} :
    ∀ (rest : List Oper) (i : Nat), ops.toList.drop i = rest → ∀ (σ : St) (ρ : List Sc) (β : Bij) (a : Act) (w : World), (seqOps C call ops.toList i rest σ).holds Φ ρ Qt → ρr <+: ρ → SInv Φ ρ w0 β0 σ β a w →
      wpOps C.P ops (PostOf Φ Qt ρr w0 β0) (List.range' i rest.length) a w
  | [], i, _, σ, ρ, β, a, w, h, hp, hS => ⟨.normal, σ, ρ, β, rfl, h, hp, hS⟩
  | o :: rest, i, hdrop, σ, ρ, β, a, w, h, hp, hS => by
    have ho : ops[i]? = some o := by
      have := congrArg (·[0]?) hdrop
      simpa using this
    have hdrop' : ops.toList.drop (i + 1) = rest := by
      rw [← List.drop_drop, hdrop]; rfl
    simp only [List.length_cons, List.range'_succ, wpOps, ho]
    unfold seqOps at h
    split at h
    · rename_i hd
      split at h
      · exact h.elim
      · rename_i hw
        rw [wantedA_sound hw hS.inv.tm]
        simp only [Bool.false_eq_true, if_false]
        refine seq_sound hcon hcall rest (i + 1) hdrop' _ ρ β _ w h hp ⟨?_, hS.facts, hS.len⟩
        rw [viewOf_put hd]
        exact hS.inv.put (dst_some hd) undef_rel
      · rename_i hw
        rw [wantedA_sound hw hS.inv.tm]
        simp only [if_true]
        left
        split at h
        · exact h.elim
        · rename_i vs hvs
          have hrel := mapM_eval hS.inv.tm hvs
          split at h
          · rename_i f args hinl
            obtain ⟨vals, hargs, hrun⟩ := inlOf_sound hinl hrel
            have hc := hcall f args σ ρ _ (bindT_holds h) hS.len hS.facts β w hS.inv.mem vals hargs
            unfold Oper.wp
            obtain ⟨dst, op, type, pos, after, guard⟩ := o
            rw [hrun]
            refine hc.mono fun e w' he => ?_
            obtain ⟨tv, σ', ρ', β', y, rfl, hQ, hpre, hlen, hfacts, hy, hI'⟩ := he
            simp only [bindQ] at hQ
            split at hQ
            · rename_i hsc
              have htm : ∀ (t : Nat) (x : TV), σ.tm[t]? = some x → ∀ y, x.rel Φ ρ β y → x.rel Φ ρ' β' y := by
                intro t x hx y hr
                have hr' := TV.rel.mono hI'.ext hr
                rcases hsc with hsc | hsc
                · have : ρ' = ρ := prefix_eq hpre (by rw [hlen, hsc, hS.len])
                  rw [this]; exact hr'
                · obtain ⟨ext, rfl⟩ := hpre
                  exact (TV.rel_ext hS.len (List.all_eq_true.1 hsc x (List.mem_of_getElem? hx)) y).2 hr'
              refine seq_sound hcon hcall rest (i + 1) hdrop' _ ρ' β' _ w' hQ (hp.trans hpre) ⟨?_, hfacts, hlen⟩
              show Inv Φ ρ' w0 β0 (viewOf (putA σ.tm dst tv) σ'.heap) β' (a.put dst y) w'
              rw [viewOf_put hd]
              exact (hS.inv.join hI' htm).put (dst_some hd) hy
            · exact hQ.elim
          · obtain ⟨fs', tv, eff, hf', hT, hgood, heff⟩ := opR_sound hcon (toT_holds h) hS.facts w0
            have hview : ∀ tm, viewOf tm (σ.heap ++ [none]) = viewOf tm σ.heap := fun tm => getD_none_view σ.heap 1 tm
            refine hgood β0 _ β a w hS.inv (dst_some hd) hrel (fun b off n cs hfoot hmem => ?_) ?_ _ _ fun β' a' w' hle hI => ?_
            · unfold memOf at hmem
              rw [hfoot, Option.bind_some] at hmem
              exact readH_sound hmem
            · simp [viewOf, tyV]
            · refine seq_sound hcon hcall rest (i + 1) hdrop' _ ρ β' a' w' hT hp ⟨?_, hf', hS.len⟩
              simp only
              have hv : viewOf (putA σ.tm o.dst tv) (eff.apply (if eff.isNew then σ.heap ++ [none] else σ.heap)) = ((viewOf σ.tm σ.heap).put o.dst tv).eff eff := by
                rw [← viewOf_put hd]
                cases eff with
                | no => rfl
                | new id b =>
                  simp only [Eff.isNew, if_true]
                  obtain rfl : id = σ.heap.length := heff
                  rw [viewOf_eff (C := C) (op := o.op) (vs := vs) (heap := σ.heap ++ [none]) (id := σ.heap.length) (eff := .new σ.heap.length b) (by simp) rfl, hview]
                | wr b off cs =>
                  simp only [Eff.isNew, Bool.false_eq_true, if_false]
                  have hlt : 0 < σ.heap.length := by
                    obtain ⟨hfoot, old, hold, _⟩ := heff
                    unfold memOf at hold
                    rw [hfoot, Option.bind_some] at hold
                    simp only [readH] at hold
                    split at hold
                    · rename_i blk hb
                      have := (List.getElem?_eq_some_iff.1 hb).1
                      omega
                    · cases hold
                  exact viewOf_eff (C := C) (op := o.op) (vs := vs) (id := 0) hlt heff
              rw [hv]
              exact hI
    · exact h.elim
end
end Go.Sx
