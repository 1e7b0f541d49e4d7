/- A symbolic executor over the loaded program of a seat: from a law's calls to its row. -/
import Derived.Test.YtdfcphfoccgopaaSx14
import Derived.ProofKit
namespace Go.Sx
open Go.RowKit (Below)
open Go.ChangeShapes Go.RowKit
set_option linter.unusedVariables false
set_option linter.unusedSimpArgs false

/-- In range for its kind. -/
def K.has : K → Sc → Prop
  | .int k, s => ∃ n, s = .int n ∧ k.has n
  | .bool, s => ∃ b, s = .bool b
  | .str, s => ∃ t, s = .str t ∧ (t.size : Int) ≤ IntKind.i64.max
def InRange (ss : List Sh) (l : List Sc) : Prop := Rel2 K.has (shKinds ss) l
theorem InRange.canon {ss : List Sh} {l : List Sc} (h : InRange ss l) : Canon ss l := by
  refine Rel2.mono (fun k s hk => ?_) h
  cases k with
  | int k => obtain ⟨n, hn, _⟩ := hk; exact ⟨n, hn⟩
  | bool => exact hk
  | str => obtain ⟨n, hn, _⟩ := hk; exact ⟨n, hn⟩
def kindOf (P : Program) (t : TypeId) : Option K :=
  match P.underlying t with
  | some (.int k) => some (.int k)
  | some .bool => some .bool
  | some .string => some .str
  | _ => none
/-- The shape of a type whose cells are integers, bools and strings. -/
def flatSh (P : Program) (t : TypeId) : Option Sh :=
  match P.underlying t with
  | some (.struct _) | some (.array _ _) => match P.cellTypes P.depth t with
    | some ts => if P.cellsOf t = ts.length then (ts.mapM (kindOf P)).map .agg else none
    | none => none
  | _ => (kindOf P t).map .one
theorem cell_flat {P : Program} {w : World} {base : Nat} {t : TypeId} {k : K} {v : Value} (hk : kindOf P t = some k) (h : Cell.okWide P w .any base t v) : ∃ s, v = k.val s ∧ k.has s := by
  unfold kindOf at hk
  split at hk
  · rename_i k' hu
    cases hk
    unfold Cell.okWide at h
    rw [hu] at h
    unfold Cell.ok at h
    rw [hu] at h
    cases v <;> try (exact h.elim)
    rename_i k2 n
    simp only at h
    obtain ⟨rfl, hn⟩ := h
    exact ⟨.int n, rfl, n, rfl, hn⟩
  · rename_i hu
    cases hk
    unfold Cell.okWide at h
    rw [hu] at h
    unfold Cell.ok at h
    rw [hu] at h
    cases v <;> try (exact h.elim)
    rename_i b
    exact ⟨.bool b, rfl, b, rfl⟩
  · rename_i hu
    cases hk
    unfold Cell.okWide at h
    rw [hu] at h
    unfold Cell.ok at h
    rw [hu] at h
    cases v <;> try (exact h.elim)
    rename_i s
    exact ⟨.str s, rfl, s, rfl, h⟩
  · cases hk
theorem cells_flat {P : Program} {w : World} {base : Nat} : ∀ {ts : List TypeId} {ks : List K} {cs : List Value}, ts.mapM (kindOf P) = some ks → cs.length = ts.length →
    (∀ (i : Nat) (v : Value), cs[i]? = some v → ∃ u, ts[i]? = some u ∧ Cell.okWide P w .any base u v) → ∃ l : List Sc, Rel2 K.has ks l ∧ ∀ r, cs = packCells ks (l ++ r)
  | [], ks, cs, hk, hl, _ => by
    simp at hk
    subst hk
    have : cs = [] := List.eq_nil_of_length_eq_zero (by simpa using hl)
    subst this
    exact ⟨[], trivial, fun _ => rfl⟩
  | t :: ts, ks, cs, hk, hl, h => by
    simp only [List.mapM_cons, Option.bind_eq_bind, Option.pure_def, Option.bind_eq_some_iff] at hk
    obtain ⟨k, hk1, ks', hk2, hk3⟩ := hk
    cases hk3
    cases cs with
    | nil => simp at hl
    | cons c cs =>
      obtain ⟨u, hu, hc⟩ := h 0 c (by simp)
      simp at hu
      subst hu
      obtain ⟨s, rfl, hs⟩ := cell_flat hk1 hc
      obtain ⟨l, hl1, hl2⟩ := cells_flat (cs := cs) hk2 (by simpa using hl) fun i v hv => by simpa using h (i + 1) v (by simpa using hv)
      exact ⟨s :: l, ⟨hs, hl1⟩, fun r => by simp only [packCells, List.cons_append, List.getD_cons_zero, List.drop_succ_cons, List.drop_zero, ← hl2 r]⟩
theorem value_flat {P : Program} {w : World} {base : Nat} {t : TypeId} {sh : Sh} {v : Value} (hs : flatSh P t = some sh) (h : Value.okWide P w .any base t v) : ∃ l : List Sc, Rel2 K.has sh.kinds l ∧ l.length = sh.size ∧ ∀ r, v = packOne sh (l ++ r) := by
  have hrow : ∀ (hr : (∃ cs, v = .agg cs ∧ cs.size = P.cellsOf t ∧ Row.okWide P w .any base t cs)) (hs : (match P.cellTypes P.depth t with
      | some ts => if P.cellsOf t = ts.length then (ts.mapM (kindOf P)).map Sh.agg else none
      | none => none) = some sh), ∃ l : List Sc, Rel2 K.has sh.kinds l ∧ l.length = sh.size ∧ ∀ r, v = packOne sh (l ++ r) := by
    intro hr hs
    obtain ⟨cs, rfl, hsz, ts, hts, ⟨n, hn⟩, hc⟩ := hr
    rw [hts] at hs
    simp only at hs
    split at hs
    · rename_i hcl
      cases hm : ts.mapM (kindOf P) with
      | none => simp [hm] at hs
      | some ks =>
        simp [hm] at hs
        subst hs
        obtain ⟨l, h1, h2⟩ := cells_flat (cs := cs.toList) hm (by simpa [hsz] using hcl) fun i v hv => by
          have hlt : i < cs.size := by have := (List.getElem?_eq_some_iff.1 hv).1; simpa using this
          obtain ⟨u, hu, hok⟩ := hc i v (by simpa using hv)
          rw [Nat.mod_eq_of_lt (by omega)] at hu
          exact ⟨u, hu, hok⟩
        refine ⟨l, h1, (Rel2.length h1).symm, fun r => ?_⟩
        simp only [packOne]
        rw [← h2 r]
    · cases hs
  unfold flatSh at hs
  unfold Value.okWide at h
  split at hs
  · rename_i hu
    rw [hu] at h
    exact hrow h hs
  · rename_i hu
    rw [hu] at h
    exact hrow h hs
  · rename_i h1 h2
    cases hk : kindOf P t with
    | none => simp [hk] at hs
    | some k =>
      simp [hk] at hs
      subst hs
      have hc : Cell.okWide P w .any base t v := by
        split at h
        · rename_i hu; exact absurd hu (h1 _)
        · rename_i hu; exact absurd hu (h2 _ _)
        · exact h
      obtain ⟨s, rfl, hs⟩ := cell_flat hk hc
      exact ⟨[s], ⟨hs, trivial⟩, rfl, fun r => rfl⟩
theorem args_flat {P : Program} {w : World} {base : Nat} : ∀ {ts : List TypeId} {ss : List Sh} {vs : List Value}, ts.mapM (flatSh P) = some ss → vs.length = ts.length →
    (∀ (j : Nat) (t : TypeId) (v : Value), ts[j]? = some t → vs[j]? = some v → Value.okWide P w .any base t v) → ∃ l : List Sc, InRange ss l ∧ ∀ r, vs = packs ss (l ++ r)
  | [], ss, vs, hk, hl, _ => by
    simp at hk
    subst hk
    have : vs = [] := List.eq_nil_of_length_eq_zero (by simpa using hl)
    subst this
    exact ⟨[], trivial, fun _ => rfl⟩
  | t :: ts, ss, vs, hk, hl, h => by
    simp only [List.mapM_cons, Option.bind_eq_bind, Option.pure_def, Option.bind_eq_some_iff] at hk
    obtain ⟨s, hk1, ss', hk2, hk3⟩ := hk
    cases hk3
    cases vs with
    | nil => simp at hl
    | cons v vs =>
      obtain ⟨l1, h1, h2, h3⟩ := value_flat hk1 (h 0 t v (by simp) (by simp))
      obtain ⟨l2, h4, h5⟩ := args_flat (vs := vs) hk2 (by simpa using hl) fun j t' v' ht hv => h (j + 1) t' v' (by simpa using ht) (by simpa using hv)
      refine ⟨l1 ++ l2, h1.append h4, fun r => ?_⟩
      simp only [packs]
      rw [List.append_assoc, ← h3 (l2 ++ r), List.drop_left' h2, ← h5 r]
theorem trodAll_below {H : Type} {enc : TypeId × Value → H} {P : Program} (hl : laidOutB P = true) {W W' : World} (hb : Below W.heap.size W W') : ∀ {ts : List TypeId} {vs : List Value} {ds : List (DataW H)} {ps : List MemPlace},
    ts.all (fun t => P.readableRec t && decide (t < P.types.size)) = true → DataW.TrodAll enc P W 0 (fun _ => true) true ts vs ds ps → (∀ x ∈ ps, x.block < W.heap.size) →
    DataW.TrodAll enc P W' 0 (fun b => decide (b < W.heap.size)) true ts vs ds ps
  | [], vs, ds, ps, _, h, _ => by
    obtain ⟨rfl, rfl, rfl⟩ := trodAll_nil h
    exact trodAll_mk0
  | t :: ts, vs, ds, ps, hr, h, hlt => by
    obtain ⟨v, vs', d, ds', p, q, rfl, rfl, rfl, h1, h2⟩ := trodAll_cons h
    simp only [List.all_cons, Bool.and_eq_true, decide_eq_true_eq] at hr
    exact ⟨p, q, Below.trod hl hr.1.1 hr.1.2 h1 hb fun x hx => hlt x (by simp [hx]), trodAll_below hl hb hr.2 h2 fun x hx => hlt x (by simp [hx]), rfl⟩
theorem trodAll_lengths {H : Type} {enc : TypeId × Value → H} {P : Program} {W : World} {base : Nat} {sp : Nat → Bool} {held : Bool} : ∀ {ts : List TypeId} {vs : List Value} {ds : List (DataW H)} {ps : List MemPlace},
    DataW.TrodAll enc P W base sp held ts vs ds ps → vs.length = ts.length ∧ ds.length = ts.length
  | [], vs, ds, ps, h => by
    obtain ⟨rfl, rfl, rfl⟩ := trodAll_nil h
    exact ⟨rfl, rfl⟩
  | t :: ts, vs, ds, ps, h => by
    obtain ⟨v, vs', d, ds', p, q, rfl, rfl, rfl, _, h2⟩ := trodAll_cons h
    have := trodAll_lengths h2
    exact ⟨by simp [this.1], by simp [this.2]⟩
/-- A law over plain values: what a call owes its row. -/
theorem law_post {A : Checked} (laidOut : laidOutB A.prog = true) {H : Type} {enc : TypeId × Value → H} {f : Nat} {fn : Func}
    {s : ChangeSpec} (hvars : s.vars = []) {ss : List Sh} {rt : TypeId} (hsh : fn.params.toList.mapM (flatSh A.prog) = some ss) (hread : fn.params.toList.all (fun t => A.prog.readableRec t && decide (t < A.prog.types.size)) = true)
    (hres : fn.resultTypes = #[rt]) (hrt : A.prog.underlying rt = some .bool)
    (hspec : ∀ ds : List (DataW H), ds.length = fn.params.toList.length → (s.fn H ds).results = [.lit (.bool true)] ∧ (s.fn H ds).args = ds ∧ (s.fn H ds).vars = [])
    {W : World} {base : Nat} {args : Array Value} {ds gs : List (DataW H)} {before : List MemPlace}
    (hcall : ∀ l, InRange ss l → Calls A.prog f (packs ss l).toArray W fun e w' => e = .returned (.bool true) ∧ Below W.heap.size W w')
    (hval : ∀ (j : Nat) t v, fn.params[j]? = some t → args[j]? = some v → Value.okWide A.prog W .any base t v) (hW : DataW.Whole enc A.prog fn.params.toList s.vars false W args.toList ds gs before) :
    Calls A.prog f args W fun e W' => ∃ v, e = .returned v ∧ s.post enc A.prog fn false true false false W args v W' := by
  have hW' := hW
  obtain ⟨p, q, hA, hV, rfl, hfz, hnd⟩ := hW
  obtain ⟨hl1, hl2⟩ := trodAll_lengths hA
  rw [hvars] at hV
  obtain ⟨rfl, rfl⟩ := trodVars_none hV
  obtain ⟨l, hr, hl⟩ := args_flat (vs := args.toList) hsh hl1 fun j t v ht hv => hval j t v (by simpa using ht) (by simpa using hv)
  have hargs : args = (packs ss l).toArray := by
    have := hl []
    rw [List.append_nil] at this
    rw [← this]
  rw [hargs]
  refine (hcall l hr).mono fun e W' ⟨he, hb⟩ => ⟨.bool true, he, ?_⟩
  rw [← hargs]
  obtain ⟨hs1, hs2, hs3⟩ := hspec ds hl2
  have hlt : ∀ x ∈ p, x.block < W.heap.size := fun x hx => hW'.lt x (by simp [hx])
  refine ⟨ds, [], _, [], p, [], hW', ?_, ?_, ?_, hb.frame _, fun h => by cases h⟩
  · rw [List.append_nil, hs1, hres]
    exact trodAll_mk1 (shut_bool hrt true)
  · rw [List.append_nil, hs2]
    exact trodAll_below laidOut hb hread hA hlt
  · rw [List.append_nil, hs3, hvars]
    rfl
/-- A law over plain values: the row's content. -/
theorem law_lifted {A : Checked} (own : ownKnob A.prog.godebug = none) (laidOut : laidOutB A.prog = true) {os : Os} (started : os.Started) {H : Type} {enc : TypeId × Value → H} {f : Nat} {fn : Func} (hfn : A.prog.funcs[f]? = some fn) (noInit : A.prog.inits.idxOf? f = none)
    {s : ChangeSpec} (hvars : s.vars = []) {ss : List Sh} {rt : TypeId} (hsh : fn.params.toList.mapM (flatSh A.prog) = some ss) (hread : fn.params.toList.all (fun t => A.prog.readableRec t && decide (t < A.prog.types.size)) = true)
    (hres : fn.resultTypes = #[rt]) (hrt : A.prog.underlying rt = some .bool)
    (hspec : ∀ ds : List (DataW H), ds.length = fn.params.toList.length → (s.fn H ds).results = [.lit (.bool true)] ∧ (s.fn H ds).args = ds ∧ (s.fn H ds).vars = [])
    (hwit : ∃ (w : World) (tape : Tape) (i : Input), w.os = os ∧ (w.forCall tape i).Shaped A.prog ∧ i.vars = [] ∧ Input.okWide A.prog (w.forCall tape i) .any w.heap.size f i ∧
      s.pre6 enc A.prog fn [] false (w.forCall tape i).memory i.args ∧ ({} : Assume).holds A.prog (lone (Frame.enter A.prog f i.args .normal) [] (w.forCall tape i)))
    (hcall : ∀ l, InRange ss l → ∀ W, GG W → Calls A.prog f (packs ss l).toArray W fun e w' => e = .returned (.bool true) ∧ Below W.heap.size W w') (hG : ∀ W : World, GG W) :
    ReturnsInHanded {} A os f .any (s.pre6 enc A.prog fn [] false) (s.post enc A.prog fn false true false false) :=
  returnsInHanded_of_change own started noInit hfn hwit fun W base args ds gs before hval hW _ _ => law_post laidOut hvars hsh hread hres hrt hspec (fun l hl => hcall l hl W (hG W)) hval hW
end Go.Sx
