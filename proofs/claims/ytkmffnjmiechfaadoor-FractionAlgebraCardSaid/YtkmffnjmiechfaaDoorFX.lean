/- A law's calls out of a tree that is computed under facts about the input. -/
import Derived.Test.YtkmffnjmiechfaaDoorSx16
namespace Go.Sx
open Go.RowKit (Below)
set_option linter.unusedVariables false
set_option linter.unusedSimpArgs false
def fnTF (C : Cfg) (f : Nat) (fn : Func) (body : Code) (sg : Sig) (fuel : Nat) (F : Facts) : T :=
  let args := (argAVs sg.args 0).map TV.av
  (exec C fuel f body { tm := args ++ List.replicate (fn.ntmps - args.length) .undef, heap := [], facts := F, nv := shSize sg.args }).bind fun
    | .st .normal σ' | .st .ret σ' => match (resultsA fn C σ').bind (flatTV sg.res) with
      | some es => .leaf (.res es)
      | none => .bad
    | _ => .bad
section
variable {C : Cfg} {Φ : Ctx}
theorem fnF_sound (hcon : ∀ f sg, C.con f = some sg → Contract C.P f sg (Φ f)) (hmix : C.P.follows .mixedOrders = true) {f : Nat} {fn : Func} {body : Code} {sg : Sig} {fuel : Nat} (hfn : C.P.funcs[f]? = some fn) (hb : fn.body = some body)
    {l : List Sc} (hl : Canon sg.args l) {F : Facts} (hF : FactsOk Φ l F) {K : List Sc → Prop} (h : (fnTF C f fn body sg fuel F).holds Φ l (resQ Φ K)) (w : World) (hgg : GG w) :
    Calls C.P f (packs sg.args l).toArray w fun e w' => ∃ rs, K rs ∧ e = .returned (packRes sg.res rs) ∧ Below w.heap.size w w' := by
  unfold fnTF at h
  have hargs := argAVs_rel (Φ := Φ) (l := l) (β := ⟨fun _ => none, fun _ => 0⟩) sg.args 0
  rw [List.drop_zero] at hargs
  have hS : SInv Φ l w ⟨fun _ => none, fun _ => 0⟩ { tm := (argAVs sg.args 0).map TV.av ++ List.replicate (fn.ntmps - ((argAVs sg.args 0).map TV.av).length) .undef, heap := [], facts := F, nv := shSize sg.args } ⟨fun _ => none, fun _ => 0⟩
      ⟨(packs sg.args l).toArray ++ Array.replicate (fn.ntmps - (packs sg.args l).toArray.size) undef, []⟩ w := by
    refine ⟨⟨mapM_tv_tmps (tm := []) hargs fn.ntmps, rfl, fun b T hT => ?_, fun b o c hc => ?_, fun b b' n o c o' c' hk hk' hb => ?_, fun b n hb => ?_, Bij.le_refl _, Below.refl _ _, fun b n cs T hb => ?_, hgg⟩, hF, canon_length hl⟩
    · simp [viewOf, tyV] at hT
    · simp [viewOf, cellV] at hc
    · cases hb
    · cases hb
    · cases hb
  refine calls_of_wp hfn hb (wp_mono ((exec_sound hcon hmix w fuel).1 f body _ l _ _ _ _ w (bindT_holds h) hS) ?_)
  intro x a' w' hx
  obtain ⟨ex, σ', ρ', β', rfl, hQ, hpre, hS'⟩ := hx
  have hfin : ∀ (hret : (match (resultsA fn C σ').bind (flatTV sg.res) with
      | some es => T.leaf (.res es)
      | none => T.bad).holds Φ ρ' (resQ Φ K)), a'.defers = [] ∧ ∃ v, (results fn a'.tmps).run C.P w' = .ok v w' ∧ ∃ rs, K rs ∧ Ending.returned v = .returned (packRes sg.res rs) ∧ Below w.heap.size w w' := by
    intro hret
    split at hret
    · rename_i es hes
      rw [Option.bind_eq_some_iff] at hes
      obtain ⟨tv, htv, hes⟩ := hes
      obtain ⟨y, hy, hyr⟩ := results_sound htv hS'.inv
      exact ⟨hS'.inv.defers, y, hy, _, hret, by rw [flatTV_sound hes hyr], hS'.inv.below⟩
    · exact hret.elim
  cases ex with
  | normal => exact hfin hQ
  | ret => exact hfin hQ
  | exit id => exact hQ.elim
end
theorem lawF_of {P : Program} {sigs : Nat → Option Sig} {Φ : Ctx} (gs inl : List Nat) (loop : Nat → Nat → Option LoopCfg) (fuel : Nat) (hmix : P.follows .mixedOrders = true) {f : Nat} {fn : Func} {ss : List Sh} (hfn : P.funcs[f]? = some fn) (hb : callable P f = true)
    (h : ∀ g ∈ gs, CT P sigs Φ g)
    (ht : ∀ l, InRange ss l → ∃ F, FactsOk Φ l F ∧ (fnTF (cfgOf P sigs gs inl loop) f fn (bodyOf fn) ⟨ss, [.one .bool], none, none, none⟩ fuel F).holds Φ l (resQ Φ fun rs => rs = [.bool true])) :
    ∀ l, InRange ss l → ∀ W, GG W → Calls P f (packs ss l).toArray W fun e w' => e = .returned (.bool true) ∧ Below W.heap.size W w' := by
  intro l hl W hg
  obtain ⟨F, hF, hh⟩ := ht l hl
  refine (fnF_sound (C := cfgOf P sigs gs inl loop) (sg := ⟨ss, [.one .bool], none, none, none⟩) (hcon_of h) hmix hfn (body_some (callable_body hfn hb)) hl.canon hF hh W hg).mono fun e w' ⟨rs, hrs, he, hw⟩ => ?_
  subst hrs
  exact ⟨he, hw⟩
end Go.Sx
