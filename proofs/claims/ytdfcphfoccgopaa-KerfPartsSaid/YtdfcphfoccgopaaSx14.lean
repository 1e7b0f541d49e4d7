/- A symbolic executor over the loaded program of a seat: code, and a whole function. -/
import Derived.Test.YtdfcphfoccgopaaSx13
namespace Go.Sx
open Go.RowKit (Below)
set_option linter.unusedVariables false
set_option linter.unusedSimpArgs false

section
variable {C : Cfg} {Φ : Ctx}
theorem PostOf.mono {w0 : World} {Q Q' : Out → List Sc → Prop} {ρ ρ' : List Sc} {β0 : Bij} {x : Exit} {a : Act} {w : World} (hp : ρ' <+: ρ) (hq : ∀ ex σ ρ, Q (.st ex σ) ρ → Q' (.st ex σ) ρ) (h : PostOf Φ Q ρ w0 β0 x a w) : PostOf Φ Q' ρ' w0 β0 x a w :=
  let ⟨ex, σ, ρ1, β, he, hQ, hpre, hS⟩ := h
  ⟨ex, σ, ρ1, β, he, hq _ _ _ hQ, hp.trans hpre, hS⟩
theorem forkT_sound {e : E} {σ : St} {k : St → Bool → T} {Q : Out → List Sc → Prop} {ρ : List Sc} (h : (forkT e σ k).holds Φ ρ Q) (hf : FactsOk Φ ρ σ.facts) :
    ∃ fs', FactsOk Φ ρ fs' ∧ (k { σ with facts := fs' } (e.den Φ ρ).toBool).holds Φ ρ Q := by
  unfold forkT at h
  rw [← resolve_sound hf e]
  split at h
  · rename_i b hb
    rw [hb]
    exact ⟨σ.facts, hf, h⟩
  · rename_i c' hb
    rw [hb, show ((E.not c').den Φ ρ).toBool = !(c'.den Φ ρ).toBool from rfl]
    simp only [T.holds] at h
    cases hc : (c'.den Φ ρ).toBool
    · rw [hc] at h; exact ⟨_, hf.cons hc, h⟩
    · rw [hc] at h; exact ⟨_, hf.cons hc, h⟩
  · simp only [T.holds] at h
    cases hc : ((resolve σ.facts e).den Φ ρ).toBool
    · rw [hc] at h; exact ⟨_, hf.cons hc, h⟩
    · rw [hc] at h; exact ⟨_, hf.cons hc, h⟩
theorem isRow_size {P : Program} {t : TypeId} {b : Bool} (h : aggP P t = some b) : ∃ d, P.underlying t = some d ∧ d.isRow = b := by
  unfold aggP at h
  cases hu : P.underlying t with
  | none => simp [hu] at h
  | some d => exact ⟨d, rfl, by simpa [hu] using h⟩
def resV (a : Act) : ResultVar → Sem Value
  | .tmp t => pure (a.tmps.getD t undef)
  | .cell a' t => do loadVar t (← asAddr (a.tmps.getD a' undef))
theorem resA_sound {σ : St} {r : ResultVar} {v : AV} (hr : resA C σ r = some v) {w0 : World} {ρ : List Sc} {β0 β : Bij} {a : Act} {w : World} (hI : Inv Φ ρ w0 β0 (viewOf σ.tm σ.heap) β a w) :
    ∃ y, (resV a r).run C.P w = .ok y w ∧ v.rel Φ ρ β y := by
  cases r with
  | tmp t =>
    simp only [resA] at hr
    split at hr
    · rename_i v' ht
      cases hr
      obtain ⟨y, hy, hyr⟩ := hI.tm t _ ht
      exact ⟨y, by simp [resV, Array.getD_eq_getD_getElem?, hy], hyr⟩
    · cases hr
  | cell a' t =>
    simp only [resA] at hr
    split at hr
    · rename_i b o s ht ha hs
      cases hrd : readH σ.heap (b, o, s) with
      | none => simp [hrd] at hr
      | some cs =>
        simp [hrd] at hr
        subst hr
        obtain ⟨y, hy, n, hb, hyr⟩ := hI.tm a' _ ht
        obtain ⟨hl, hc⟩ := readH_sound hrd
        obtain ⟨ys, hyr', hra, _⟩ := hI.range hb hc
        obtain ⟨d, hu, hd⟩ := isRow_size ha
        refine ⟨.agg ys.toArray, ?_, ys, rfl, hyr'⟩
        simp only [resV, Array.getD_eq_getD_getElem?, hy, Option.getD_some, hyr, asAddr, Sem.run_bind, Sem.run_pure, Result.andThen_ok]
        exact run_loadVar_mid w n o t ys d hra hu hd (by rw [← hyr'.length, hl]; exact hs)
    · rename_i b o s ht ha hs
      split at hr
      · rename_i c hrd
        split at hr
        · cases hr
          obtain ⟨y, hy, n, hb, hyr⟩ := hI.tm a' _ ht
          obtain ⟨hl, hc⟩ := readH_sound hrd
          obtain ⟨ys, hyr', hra, _⟩ := hI.range hb hc
          cases ys with
          | nil => exact hyr'.elim
          | cons y' ys =>
            refine ⟨y', ?_, hyr'.1⟩
            simp only [resV, Array.getD_eq_getD_getElem?, hy, Option.getD_some, hyr, asAddr, Sem.run_bind, Sem.run_pure, Result.andThen_ok]
            have hcell := hra 0 y' (by simp)
            simp [loadVar, aggP_sound ha w, show w.cell? ⟨n, o, none⟩ = some y' by simpa using hcell]
        · cases hr
      · cases hr
    · cases hr
theorem mapM_resA {σ : St} {w0 : World} {ρ : List Sc} {β0 β : Bij} {a : Act} {w : World} (hI : Inv Φ ρ w0 β0 (viewOf σ.tm σ.heap) β a w) : ∀ (rs : List ResultVar) (vs : List AV), rs.mapM (resA C σ) = some vs →
    ∃ ys : List Value, (rs.mapM (resV a)).run C.P w = .ok ys w ∧ Rel2 (AV.rel Φ ρ β) vs ys
  | [], vs, h => by simp at h; subst h; exact ⟨[], by simp, trivial⟩
  | r :: rs, vs, h => by
    simp only [List.mapM_cons, Option.bind_eq_bind, Option.pure_def, Option.bind_eq_some_iff] at h
    obtain ⟨v, hr, vs', hvs', h⟩ := h
    cases h
    obtain ⟨ys, hys, hrel⟩ := mapM_resA hI rs vs' hvs'
    obtain ⟨y, hy, hyr⟩ := resA_sound hr hI
    refine ⟨y :: ys, ?_, hyr, hrel⟩
    simp only [List.mapM_cons, Sem.run_bind, hy, Result.andThen_ok, hys, Sem.run_pure]
theorem results_sound {fn : Func} {σ : St} {tv : TV} (h : resultsA fn C σ = some tv) {w0 : World} {ρ : List Sc} {β0 β : Bij} {a : Act} {w : World} (hI : Inv Φ ρ w0 β0 (viewOf σ.tm σ.heap) β a w) :
    ∃ y, (results fn a.tmps).run C.P w = .ok y w ∧ tv.rel Φ ρ β y := by
  unfold resultsA at h
  cases hm : fn.results.toList.mapM (resA C σ) with
  | none => rw [hm] at h; cases h
  | some vs =>
    rw [hm] at h
    simp only [Option.map_some, Option.some.injEq] at h
    subst h
    obtain ⟨ys, hys, hrel⟩ := mapM_resA hI _ _ hm
    refine ⟨_, ?_, tvOf_sound hrel⟩
    have e : results fn a.tmps = (do let vs ← fn.results.mapM (resV a); pure (if h : vs.size = 1 then vs[0] else .tuple vs)) := by
      unfold results
      congr 1
    rw [e, Array.mapM_eq_mapM_toList]
    simp only [Sem.run_bind, Sem.run_map, hys, Result.andThen_ok, Sem.run_pure]
    cases ys with
    | nil => rfl
    | cons y ys => cases ys with
      | nil => rfl
      | cons _ _ => simp
theorem mapM_tv_tmps {tm : List TV} {args : List TV} {vals : List Value} {ρ : List Sc} {β : Bij} (h : Rel2 (TV.rel Φ ρ β) args vals) (n : Nat) :
    ∀ (t : Nat) (x : TV), (args ++ List.replicate (n - args.length) TV.undef)[t]? = some x → ∃ y, (vals.toArray ++ Array.replicate (n - vals.toArray.size) undef)[t]? = some y ∧ x.rel Φ ρ β y := by
  intro t x hx
  have hl := h.length
  by_cases ht : t < args.length
  · rw [List.getElem?_append_left ht] at hx
    obtain ⟨y, hy, hr⟩ := h.get hx
    refine ⟨y, ?_, hr⟩
    rw [Array.getElem?_append_left (by simpa [← hl] using ht)]
    simpa using hy
  · rw [List.getElem?_append_right (by omega)] at hx
    have hlt : t - args.length < n - args.length := by have := (List.getElem?_eq_some_iff.1 hx).1; simpa using this
    have hxe := List.eq_of_mem_replicate (List.mem_of_getElem? hx)
    subst hxe
    refine ⟨undef, ?_, undef_rel⟩
    have hv : vals.toArray.size = args.length := by simpa using hl.symm
    rw [Array.getElem?_append_right (by rw [hv]; omega), hv]
    simp [hlt]

/-! ### Code -/
theorem exec_sound (hcon : ∀ f sg, C.con f = some sg → Contract C.P f sg (Φ f)) (hmix : C.P.follows .mixedOrders = true) (w0 : World) : ∀ (n : Nat),
    (∀ (fid : Nat) (code : Code) (σ : St) (ρ : List Sc) (Qt : Out → List Sc → Prop) (β0 β : Bij) (a : Act) (w : World), (exec C n fid code σ).holds Φ ρ Qt → SInv Φ ρ w0 β0 σ β a w → code.wp C.P (PostOf Φ Qt ρ w0 β0) a w) ∧
    (∀ (fid : Nat) (body : Code) (σ : St) (ρ : List Sc) (Qt : Out → List Sc → Prop) (β0 β : Bij) (a : Act) (w : World), C.loop fid (firstRegion body) = none → (exec C n fid (.loop body) σ).holds Φ ρ Qt → SInv Φ ρ w0 β0 σ β a w →
      ∀ ρr, ρr <+: ρ → Code.rounds C.P body (PostOf Φ Qt ρr w0 β0) n a w) := by
  intro n
  induction n with
  | zero => exact ⟨fun fid code σ ρ Qt β0 β a w h _ => h.elim, fun fid body σ ρ Qt β0 β a w _ h => h.elim⟩
  | succ n ih =>
    obtain ⟨ihc, ihr⟩ := ih
    -- a call that is entered
    have hcall : CallOk C Φ w0 (fun f args σ => match C.P.funcs[f]? with
        | some fn => match fn.body with
          | some body => (exec C n f body { σ with tm := args ++ List.replicate (fn.ntmps - args.length) .undef }).bind fun
            | .st .normal σ' | .st .ret σ' => match resultsA fn C σ' with
              | some tv => .leaf (.ret tv σ')
              | none => .bad
            | _ => .bad
          | none => .bad
        | none => .bad) := by
      intro f args σ ρ Q h hlen hf β w hI vals hargs
      simp only at h
      split at h
      · rename_i fn hfn
        split at h
        · rename_i body hb
          have hS : SInv Φ ρ w0 β { σ with tm := args ++ List.replicate (fn.ntmps - args.length) .undef } β ⟨vals.toArray ++ Array.replicate (fn.ntmps - vals.toArray.size) undef, []⟩ w :=
            ⟨⟨mapM_tv_tmps (tm := []) hargs fn.ntmps, rfl, hI.ty, hI.cty, hI.inj, hI.dom, hI.ext, hI.below, hI.sz, hI.gg⟩, hf, hlen⟩
          refine calls_of_wp hfn hb (wp_mono (ihc f body _ ρ _ β β _ w (bindT_holds h) hS) ?_)
          intro x a' w' hx
          obtain ⟨ex, σ', ρ', β', rfl, hQ, hpre, hS'⟩ := hx
          have hfin : ∀ (hret : (match resultsA fn C σ' with
              | some tv => T.leaf (.ret tv σ')
              | none => T.bad).holds Φ ρ' Q), a'.defers = [] ∧ ∃ v, (results fn a'.tmps).run C.P w' = .ok v w' ∧
              ∃ tv σ' ρ' β' y, Ending.returned v = .returned y ∧ Q (.ret tv σ') ρ' ∧ ρ <+: ρ' ∧ ρ'.length = σ'.nv ∧ FactsOk Φ ρ' σ'.facts ∧ tv.rel Φ ρ' β' y ∧ Inv Φ ρ' w0 β (viewOf [] σ'.heap) β' ⟨#[], []⟩ w' := by
            intro hret
            split at hret
            · rename_i tv htv
              obtain ⟨y, hy, hyr⟩ := results_sound htv hS'.inv
              refine ⟨hS'.inv.defers, y, hy, tv, σ', ρ', β', y, rfl, hret, hpre, hS'.len, hS'.facts, hyr, ?_⟩
              exact ⟨fun t x hx => by simp [viewOf] at hx, rfl, hS'.inv.ty, hS'.inv.cty, hS'.inv.inj, hS'.inv.dom, hS'.inv.ext, hS'.inv.below, hS'.inv.sz, hS'.inv.gg⟩
            · exact hret.elim
          cases ex with
          | normal => exact hfin hQ
          | ret => exact hfin hQ
          | exit id => exact hQ.elim
        · exact h.elim
      · exact h.elim
    have hround : ∀ (fid : Nat) (body : Code) (σ : St) (ρ : List Sc) (Qt : Out → List Sc → Prop) (β0 β : Bij) (a : Act) (w : World), C.loop fid (firstRegion body) = none → (exec C (n + 1) fid (.loop body) σ).holds Φ ρ Qt → SInv Φ ρ w0 β0 σ β a w →
        ∀ ρr, ρr <+: ρ → Code.rounds C.P body (PostOf Φ Qt ρr w0 β0) (n + 1) a w := by
      intro fid body σ ρ Qt β0 β a w hl h hS ρr hpr
      simp only [exec, hl] at h
      rw [rounds_succ]
      refine wp_mono (ihc fid body σ ρ _ β0 β a w (bindT_holds h) hS) ?_
      intro x a' w' hx
      obtain ⟨ex, σ', ρ', β', rfl, hQ, hpre, hS'⟩ := hx
      cases ex with
      | normal => exact ihr fid body σ' ρ' Qt β0 β' a' w' hl hQ hS' ρr (hpr.trans hpre)
      | exit id => exact ⟨.exit id, σ', ρ', β', rfl, hQ, hpr.trans hpre, hS'⟩
      | ret => exact ⟨.ret, σ', ρ', β', rfl, hQ, hpr.trans hpre, hS'⟩
    refine ⟨fun fid code σ ρ Qt β0 β a w h hS => ?_, hround⟩
    cases code with
    | skip => exact wp_skip ⟨.normal, σ, ρ, β, rfl, h, List.prefix_refl ρ, hS⟩
    | exit id => exact wp_exit ⟨.exit id, σ, ρ, β, rfl, h, List.prefix_refl ρ, hS⟩
    | ret => exact wp_ret ⟨.ret, σ, ρ, β, rfl, h, List.prefix_refl ρ, hS⟩
    | seq x y =>
      simp only [exec] at h
      refine wp_seq (wp_mono (ihc fid x σ ρ _ β0 β a w (bindT_holds h) hS) ?_)
      intro e a' w' hx
      obtain ⟨ex, σ', ρ', β', rfl, hQ, hpre, hS'⟩ := hx
      cases ex with
      | normal => exact wp_mono (ihc fid y σ' ρ' Qt β0 β' a' w' hQ hS') fun _ _ _ hp => hp.mono hpre fun _ _ _ h => h
      | exit id => exact ⟨.exit id, σ', ρ', β', rfl, hQ, hpre, hS'⟩
      | ret => exact ⟨.ret, σ', ρ', β', rfl, hQ, hpre, hS'⟩
    | cond c x y =>
      simp only [exec] at h
      split at h
      · rename_i e he
        have hev : a.eval c = .bool (e.den Φ ρ).toBool := evalA_sound hS.inv.tm he
        obtain ⟨fs', hf', hk⟩ := forkT_sound h hS.facts
        refine wp_cond hev ?_
        have hS2 : SInv Φ ρ w0 β0 { σ with facts := fs' } β a w := ⟨hS.inv, hf', hS.len⟩
        cases hb : (e.den Φ ρ).toBool
        · rw [hb] at hk; exact ihc fid y _ ρ Qt β0 β a w hk hS2
        · rw [hb] at hk; exact ihc fid x _ ρ Qt β0 β a w hk hS2
      · exact h.elim
    | block id c =>
      simp only [exec] at h
      refine wp_block (wp_mono (ihc fid c σ ρ _ β0 β a w (bindT_holds h) hS) ?_)
      intro e a' w' hx
      obtain ⟨ex, σ', ρ', β', rfl, hQ, hpre, hS'⟩ := hx
      cases ex with
      | normal => exact ⟨.normal, σ', ρ', β', rfl, hQ, hpre, hS'⟩
      | ret => exact ⟨.ret, σ', ρ', β', rfl, hQ, hpre, hS'⟩
      | exit id' =>
        simp only [bindQ] at hQ
        simp only [exitOf, Exit.inBlock]
        split at hQ
        · rename_i e; rw [if_pos e]; exact ⟨.normal, σ', ρ', β', rfl, hQ, hpre, hS'⟩
        · rename_i e; rw [if_neg e]; exact ⟨.exit id', σ', ρ', β', rfl, hQ, hpre, hS'⟩
    | region id ops draw =>
      simp only [exec] at h
      cases draw with
      | true => exact draw_sound hcon hmix h hS
      | false =>
        simp only [Bool.false_eq_true, if_false] at h
        refine wp_region ?_
        rw [List.range_eq_range']
        have := seq_sound (w0 := w0) (β0 := β0) (ρr := ρ) hcon hcall (ops := ops) ops.toList 0 (by simp) σ ρ β a w h (List.prefix_refl ρ) hS
        simpa using this
    | loop body =>
      cases hl : C.loop fid (firstRegion body) with
      | none => exact wp_loop_rounds (n + 1) (hround fid body σ ρ Qt β0 β a w hl h hS ρ (List.prefix_refl ρ))
      | some lc =>
        simp only [exec, hl] at h
        split at h
        · rename_i init mcs hinit hmcs
          split at h
          · rename_i init' hinit'
            split at h
            · rename_i hsc
              simp only [St.sc, Bool.and_eq_true] at hsc
              obtain ⟨⟨hsc1, hsc2⟩, hsc3⟩ := hsc
              obtain ⟨k, hk⟩ := h
              generalize hσL : ({ tm := setMods (forget σ.tm (dstsOf body)) σ.nv lc.mods, heap := setMcells σ.heap (σ.nv + lc.mods.length) mcs, facts := σ.facts, nv := σ.nv + lc.mods.length + mcs.length } : St) = σL at hk
              have hLtm : σL.tm = setMods (forget σ.tm (dstsOf body)) σ.nv lc.mods := by rw [← hσL]
              have hLheap : σL.heap = setMcells σ.heap (σ.nv + lc.mods.length) mcs := by rw [← hσL]
              have hLfacts : σL.facts = σ.facts := by rw [← hσL]
              have hLnv : σL.nv = σ.nv + lc.mods.length + mcs.length := by rw [← hσL]
              have hLty : ∀ b, tyV σL.heap b = tyV σ.heap b := fun b => by rw [hLheap]; exact setMcells_ty _ _ _ _
              have hlive : (fun b => (tyV σL.heap b).isSome) = fun b => (tyV σ.heap b).isSome := by funext b; rw [hLty]
              have hext : ∀ b m, β0 b = some m → (tyV σL.heap b).isSome = true := by
                intro b m hb
                obtain ⟨T, hT⟩ := hS.inv.dom b m (hS.inv.ext b m hb).1
                have hT : tyV σ.heap b = some T := hT
                rw [hLty, hT]; rfl
              have hfL : σL.facts.all (fun p => p.1.sc σ.nv) = true := by rw [hLfacts]; exact hsc2
              have hfok : FactsOk Φ ρ σL.facts := by rw [hLfacts]; exact hS.facts
              have hforget : ∀ (t : Nat) (x : TV), (forget σ.tm (dstsOf body))[t]? = some x → x = .ce .unk ∨ (σ.tm[t]? = some x ∧ x.sc σ.nv (fun b => (tyV σL.heap b).isSome) = true) := by
                intro t x hx
                rcases forget_get _ _ hx with h | h
                · exact Or.inl h
                · exact Or.inr ⟨h, by rw [hlive]; exact List.all_eq_true.1 hsc1 x (List.mem_of_getElem? h)⟩
              have hcellsc : ∀ (b o : Nat) (c : Cell), cellV σ.heap b o = some c → c.sc σ.nv (fun b => (tyV σL.heap b).isSome) = true := by
                intro b o c hc
                rw [hlive]
                simp only [cellV] at hc
                split at hc
                · rename_i blk hb
                  have := List.all_eq_true.1 hsc3 _ (List.mem_of_getElem? hb)
                  exact List.all_eq_true.1 this c (List.mem_of_getElem? hc)
                · cases hc
              have hflen : (forget σ.tm (dstsOf body)).length = σ.tm.length := by
                have : ∀ (ds : List Nat) (tm : List TV), (forget tm ds).length = tm.length := by
                  intro ds
                  induction ds with
                  | nil => intro tm; rfl
                  | cons d ds ih => intro tm; rw [forget, ih]; simp
                exact this _ _
              -- the rounds
              have hrounds : ∀ (k : Nat) (vs : List Sc) (β1 : Bij) (a1 : Act) (w1 : World), iterH (fun ρ' Q' => ((exec C n fid body σL).bind fun
                    | .st .normal σ' => match contOf σL σ.nv lc.mods mcs σ' with
                      | some es => .leaf (.cont 0 es)
                      | none => .bad
                    | o => .leaf o).holds Φ ρ' Q') Φ ρ Qt k vs → SInv Φ (ρ ++ vs) w0 β0 σL β1 a1 w1 → Code.rounds C.P body (PostOf Φ Qt ρ w0 β0) k a1 w1 := by
                intro k
                induction k with
                | zero => intro vs β1 a1 w1 h; exact h.elim
                | succ k ihk =>
                  intro vs β1 a1 w1 h hS1
                  rw [rounds_succ]
                  refine wp_mono (ihc fid body σL (ρ ++ vs) _ β0 β1 a1 w1 (bindT_holds h) hS1) ?_
                  intro e a' w' hx
                  obtain ⟨ex, σ', ρ', β', rfl, hQ, hpre, hS'⟩ := hx
                  obtain ⟨ext, rfl⟩ := hpre
                  cases ex with
                  | exit id => exact ⟨.exit id, σ', _, β', rfl, hQ, (List.prefix_append ρ vs).trans (List.prefix_append _ _), hS'⟩
                  | ret => exact ⟨.ret, σ', _, β', rfl, hQ, (List.prefix_append ρ vs).trans (List.prefix_append _ _), hS'⟩
                  | normal =>
                    simp only [bindQ] at hQ
                    split at hQ
                    · rename_i es hes
                      have hQ : iterH _ Φ ρ Qt k (es.map (E.den Φ (ρ ++ vs ++ ext))) := hQ
                      unfold contOf at hes
                      split at hes
                      · rename_i es1 es2 h1 h2
                        split at hes
                        · rename_i hfit
                          simp only [Bool.and_eq_true] at hfit
                          cases hes
                          rw [List.append_assoc] at hQ hS'
                          have hX := heapFits_view hfit.2
                          have hlX : (setMods σ'.tm σ.nv lc.mods).length = σL.tm.length := by
                            have : ∀ (xs ys : List TV), fitsAll xs ys = true → xs.length = ys.length := by
                              intro xs
                              induction xs with
                              | nil => intro ys; cases ys <;> simp [fitsAll]
                              | cons x xs ih => intro ys; cases ys with
                                | nil => simp [fitsAll]
                                | cons y ys => simp only [fitsAll, Bool.and_eq_true]; intro h; simp [ih ys h.2]
                            exact this _ _ hfit.1
                          have hex : ∃ β2, SInv Φ (ρ ++ (es1 ++ es2).map (E.den Φ (ρ ++ (vs ++ ext)))) w0 β0 σL β2 a' w' := by
                            refine loop_inv (mods := lc.mods) (mcs := mcs) (σL := σL) hS' hS.len h1 h2 (fun t x hx => ?_) (fun b o c hc => ?_) (fun b T hT => ?_) hext hfL hfok hLnv
                            · rw [setMods_length] at hlX
                              have hlt : t < σ'.tm.length := by have := (List.getElem?_eq_some_iff.1 hx).1; omega
                              rcases fitsAll_get hfit.1 hx with h | h
                              · exact Or.inl ⟨h, _, List.getElem?_eq_getElem hlt⟩
                              · rcases setMods_get _ _ _ h with h' | ⟨h', hne⟩
                                · exact Or.inr (Or.inl h')
                                · rw [hLtm] at hx
                                  rcases setMods_get _ _ _ hx with ⟨i, k', hi, _⟩ | ⟨h'', _⟩
                                  · exact absurd rfl (hne i t k' hi)
                                  · rcases hforget t x h'' with h3 | h3
                                    · exact Or.inl ⟨h3, _, List.getElem?_eq_getElem hlt⟩
                                    · exact Or.inr (Or.inr ⟨h', h3.2⟩)
                            · rcases setMcells_cell _ _ _ (hX.1 b o c hc) with h' | ⟨h', hne⟩
                              · exact Or.inl h'
                              · rw [hLheap] at hc
                                rcases setMcells_cell _ _ _ hc with ⟨i, k', hi, _⟩ | ⟨h'', _⟩
                                · exact absurd rfl (hne i b o k' hi)
                                · exact Or.inr ⟨h', hcellsc b o c h''⟩
                            · have := hX.2 b T hT
                              rwa [setMcells_ty] at this
                          obtain ⟨β2, hS2⟩ := hex
                          exact ihk _ β2 a' w' hQ hS2
                        · cases hes
                      · cases hes
                    · exact hQ.elim
              have hex : ∃ β1, SInv Φ (ρ ++ (init ++ init').map (E.den Φ (ρ ++ []))) w0 β0 σL β1 a w := by
                refine loop_inv (ρ := ρ) (e0 := []) (mods := lc.mods) (mcs := mcs) (σL := σL) (by rw [List.append_nil]; exact hS) hS.len hinit hinit' (fun t x hx => ?_) (fun b o c hc => ?_) (fun b T hT => ?_) hext hfL hfok hLnv
                · rw [hLtm] at hx
                  have hlt : t < σ.tm.length := by
                    have := (List.getElem?_eq_some_iff.1 hx).1
                    rw [setMods_length, hflen] at this
                    exact this
                  rcases setMods_get _ _ _ hx with h' | ⟨h', _⟩
                  · exact Or.inr (Or.inl h')
                  · rcases hforget t x h' with h3 | h3
                    · exact Or.inl ⟨h3, _, List.getElem?_eq_getElem hlt⟩
                    · exact Or.inr (Or.inr h3)
                · rw [hLheap] at hc
                  rcases setMcells_cell _ _ _ hc with h' | ⟨h', _⟩
                  · exact Or.inl h'
                  · exact Or.inr ⟨h', hcellsc b o c h'⟩
                · rw [hLty] at hT; exact hT
              obtain ⟨β1, hS1⟩ := hex
              rw [List.append_nil] at hS1
              exact wp_loop_rounds k (hrounds k _ β1 a w hk hS1)
            · exact h.elim
          · exact h.elim
        · exact h.elim
    | rangeFunc _ _ _ _ => exact h.elim
    | scope _ => exact h.elim
    | label _ => exact h.elim
    | goto _ => exact h.elim
    | refuse _ => exact h.elim

/-! ### A function -/
theorem argCells_rel {l : List Sc} {β : Bij} : ∀ (ks : List K) (i : Nat), Rel2 (Cell.rel Φ l β) (argCells ks i) (packCells ks (l.drop i))
  | [], _ => trivial
  | k :: ks, i => by
    refine ⟨?_, ?_⟩
    · have := K.cell_rel (Φ := Φ) (ρ := l) (β := β) k (.var i)
      have e : (E.var i).den Φ l = (l.drop i).getD 0 (.int 0) := by
        show l.getD i _ = _
        simp [List.getD_eq_getElem?_getD]
      rwa [e] at this
    · have := argCells_rel (l := l) (β := β) ks (i + 1)
      rwa [← List.drop_drop] at this
theorem argAVs_rel {l : List Sc} {β : Bij} : ∀ (ss : List Sh) (i : Nat), Rel2 (TV.rel Φ l β) ((argAVs ss i).map TV.av) (packs ss (l.drop i))
  | [], _ => trivial
  | s :: ss, i => by
    refine ⟨?_, ?_⟩
    · cases s with
      | one k => exact (argCells_rel [k] i).1
      | agg ks => exact ⟨_, rfl, argCells_rel ks i⟩
    · have := argAVs_rel (l := l) (β := β) ss (i + s.size)
      rwa [← List.drop_drop] at this
theorem canon_length : ∀ {ss : List Sh} {l : List Sc}, Canon ss l → l.length = shSize ss := by
  intro ss l h
  have h1 := Rel2.length h
  rw [← h1]
  clear h h1
  induction ss with
  | nil => rfl
  | cons s ss ih =>
    simp only [shKinds, List.length_append, ih, shSize]
    congr 1
    cases s <;> rfl
theorem flatTV_sound {ss : List Sh} {tv : TV} {es : List E} (h : flatTV ss tv = some es) {ρ : List Sc} {β : Bij} {y : Value} (hr : tv.rel Φ ρ β y) : y = packRes ss (es.map (E.den Φ ρ)) := by
  unfold flatTV at h
  split at h
  · rename_i s v
    obtain ⟨h1, _⟩ := flatAVs_sound h (vs := [y]) ⟨hr, trivial⟩
    simp only [packRes, ← h1]
  · cases h
  · rename_i _ _ vs hne1
    obtain ⟨us, rfl, hr⟩ := hr
    obtain ⟨h1, _⟩ := flatAVs_sound h hr
    unfold packRes
    rw [h1]
    split
    · rename_i v hv
      exfalso
      cases ss with
      | nil => simp [packs] at hv
      | cons s ss' => cases ss' with
        | nil => exact hne1 s rfl
        | cons _ _ => simp [packs] at hv
    · rfl
  · cases h
theorem fn_sound (hcon : ∀ f sg, C.con f = some sg → Contract C.P f sg (Φ f)) (hmix : C.P.follows .mixedOrders = true) {f : Nat} {fn : Func} {body : Code} {sg : Sig} {fuel : Nat} (hfn : C.P.funcs[f]? = some fn) (hb : fn.body = some body)
    {l : List Sc} (hl : Canon sg.args l) {K : List Sc → Prop} (h : (fnT C f fn body sg fuel).holds Φ l (resQ Φ K)) (w : World) (hgg : GG w) :
    Calls C.P f (packs sg.args l).toArray w fun e w' => ∃ rs, K rs ∧ e = .returned (packRes sg.res rs) ∧ Below w.heap.size w w' := by
  unfold fnT at h
  have hargs := argAVs_rel (Φ := Φ) (l := l) (β := ⟨fun _ => none, fun _ => 0⟩) sg.args 0
  rw [List.drop_zero] at hargs
  have hS : SInv Φ l w ⟨fun _ => none, fun _ => 0⟩ { tm := (argAVs sg.args 0).map TV.av ++ List.replicate (fn.ntmps - ((argAVs sg.args 0).map TV.av).length) .undef, heap := [], facts := [], nv := shSize sg.args } ⟨fun _ => none, fun _ => 0⟩
      ⟨(packs sg.args l).toArray ++ Array.replicate (fn.ntmps - (packs sg.args l).toArray.size) undef, []⟩ w := by
    refine ⟨⟨mapM_tv_tmps (tm := []) hargs fn.ntmps, rfl, fun b T hT => ?_, fun b o c hc => ?_, fun b b' n o c o' c' hk hk' hb => ?_, fun b n hb => ?_, Bij.le_refl _, Below.refl _ _, fun b n cs T hb => ?_, hgg⟩, fun p hp => ?_, canon_length hl⟩
    · simp [viewOf, tyV] at hT
    · simp [viewOf, cellV] at hc
    · cases hb
    · cases hb
    · cases hb
    · cases hp
  refine calls_of_wp hfn hb (wp_mono ((exec_sound hcon hmix w fuel).1 f body _ l _ _ _ _ w (bindT_holds h) hS) ?_)
  intro x a' w' hx
  obtain ⟨ex, σ', ρ', β', rfl, hQ, hpre, hS'⟩ := hx
  have hfin : ∀ (hret : (match (resultsA fn C σ').bind (flatTV sg.res) with
      | some es => T.leaf (.res es)
      | none => T.bad).holds Φ ρ' (resQ Φ K)), a'.defers = [] ∧ ∃ v, (results fn a'.tmps).run C.P w' = .ok v w' ∧ ∃ rs, K rs ∧ Ending.returned v = .returned (packRes sg.res rs) ∧ Below w.heap.size w w' := by
    intro hret
    split at hret
    · rename_i es hes
      rw [Option.bind_eq_some_iff] at hes
      obtain ⟨tv, htv, hes⟩ := hes
      obtain ⟨y, hy, hyr⟩ := results_sound htv hS'.inv
      exact ⟨hS'.inv.defers, y, hy, _, hret, by rw [flatTV_sound hes hyr], hS'.inv.below⟩
    · exact hret.elim
  cases ex with
  | normal => exact hfin hQ
  | ret => exact hfin hQ
  | exit id => exact hQ.elim
/-- A contract out of the tree. -/
theorem contract_of (hcon : ∀ f sg, C.con f = some sg → Contract C.P f sg (Φ f)) (hmix : C.P.follows .mixedOrders = true) {f : Nat} {fn : Func} {body : Code} {sg : Sig} {fuel : Nat} (hfn : C.P.funcs[f]? = some fn) (hb : fn.body = some body) (hcl : callable C.P f = true) (hlst : sg.lst = none) (hoff : sg.off = none) (hcst : sg.cst = none)
    (h : ∀ l, Canon sg.args l → (Φ f).pre l = true → (fnT C f fn body sg fuel).holds Φ l (resQ Φ fun rs => rs = (Φ f).res l)) : Contract C.P f sg (Φ f) :=
  by
  refine ⟨fun l _ => by unfold CstOk; rw [hcst]; trivial, ?_⟩
  rw [hoff, hlst]
  intro l w hg hl hp
  rw [if_pos hcl]
  exact (fn_sound hcon hmix hfn hb hl (h l hl hp) w hg).mono fun e w' ⟨rs, hrs, he, hw⟩ => ⟨by rw [he, hrs], hw⟩
#print axioms contract_of
end
end Go.Sx
