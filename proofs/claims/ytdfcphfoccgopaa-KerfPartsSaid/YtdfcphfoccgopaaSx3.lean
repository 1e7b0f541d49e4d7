/- A symbolic executor over the loaded program of a seat: that one operation does what the executor says. -/
import Derived.Test.YtdfcphfoccgopaaSx2
import Derived.ChangeKeysEq
namespace Go.Sx
open Go.RowKit (Below)
set_option linter.unusedVariables false
set_option linter.unusedSimpArgs false

section
variable {Φ : Ctx} {ρ : List Sc}
def FactsOk (Φ : Ctx) (ρ : List Sc) (fs : Facts) : Prop := ∀ p ∈ fs, (p.1.den Φ ρ).toBool = p.2
theorem FactsOk.cons {fs : Facts} (h : FactsOk Φ ρ fs) {e : E} {b : Bool} (he : (e.den Φ ρ).toBool = b) : FactsOk Φ ρ ((e, b) :: fs) := by
  intro p hp
  rcases List.mem_cons.1 hp with rfl | hp
  · exact he
  · exact h p hp
theorem look_sound : ∀ {fs : Facts}, FactsOk Φ ρ fs → ∀ {e : E} {b : Bool}, look fs e = some b → (e.den Φ ρ).toBool = b
  | [], _, _, _, h => by simp [look] at h
  | (e', b') :: fs, hf, e, b, h => by
    simp only [look] at h
    split at h
    · rename_i he
      subst he
      cases h
      exact hf (e', b') (by simp)
    · exact look_sound (fun p hp => hf p (by simp [hp])) h
theorem litIn_sound : ∀ {fs : Facts}, FactsOk Φ ρ fs → ∀ {e : E} {n : Int}, litIn fs e = some n → (e.den Φ ρ).toInt = n
  | [], _, _, _, h => by simp [litIn] at h
  | p :: fs, hf, e, n, h => by
    unfold litIn at h
    split at h
    · rename_i h1; cases h1
    · rename_i x m fs' h1
      obtain ⟨rfl, rfl⟩ := List.cons.inj h1
      split at h
      · rename_i hx
        subst hx
        cases h
        have := hf (.cmp .eql x (.int n), true) (by simp)
        simpa [E.den, E.dn, Sc.toBool, Sc.toInt, cmpI] using this
      · exact litIn_sound (fun p hp => hf p (by simp [hp])) h
    · rename_i q fs' _ h1
      obtain ⟨rfl, rfl⟩ := List.cons.inj h1
      exact litIn_sound (fun p hp => hf p (by simp [hp])) h
theorem lit?_sound {fs : Facts} (hf : FactsOk Φ ρ fs) {e : E} {n : Int} (h : lit? fs e = some n) : (e.den Φ ρ).toInt = n := by
  unfold lit? at h
  split at h
  · cases h; rfl
  · exact litIn_sound hf h
theorem den_cmp (op : BinOp) (x y : E) : ((E.cmp op x y).den Φ ρ).toBool = cmpI op (x.den Φ ρ).toInt (y.den Φ ρ).toInt := rfl
theorem resolve_sound {fs : Facts} (hf : FactsOk Φ ρ fs) (e : E) : ((resolve fs e).den Φ ρ).toBool = (e.den Φ ρ).toBool := by
  unfold resolve
  split
  · rfl
  · split
    · rename_i b hl
      rw [look_sound hf hl]
      rfl
    · split
      · split
        · rename_i m n hx hy
          rw [den_cmp, lit?_sound hf hx, lit?_sound hf hy]
          rfl
        · rfl
      · rfl
theorem mkAr_den (op : BinOp) (k : IntKind) (x y : E) : ((mkAr op k x y).den Φ ρ).toInt = arI op k (x.den Φ ρ).toInt (y.den Φ ρ).toInt := by
  unfold mkAr
  split <;> rfl
theorem mkNot_den (x : E) : ((mkNot x).den Φ ρ).toBool = !(x.den Φ ρ).toBool := by
  unfold mkNot
  split
  · rfl
  · rename_i x
    show (x.den Φ ρ).toBool = !(!(x.den Φ ρ).toBool)
    rw [Bool.not_not]
  · rfl
theorem beq_comm' (a b : Int) : (a == b) = (b == a) := by
  rw [Bool.eq_iff_iff]; simp only [beq_iff_eq]; exact ⟨Eq.symm, Eq.symm⟩
theorem mkEq_den {fs : Facts} (hf : FactsOk Φ ρ fs) (x y : E) : ((mkEq fs x y).den Φ ρ).toBool = ((x.den Φ ρ).toInt == (y.den Φ ρ).toInt) := by
  unfold mkEq
  split
  · rw [resolve_sound hf, den_cmp]; exact beq_comm' _ _
  · rw [resolve_sound hf, den_cmp]; rfl
def goCmp (op : BinOp) (a b : Int) : Bool :=
  match op with
  | .eql => a == b
  | .neq => a != b
  | .lss => decide (a < b)
  | .leq => decide (a ≤ b)
  | .gtr => decide (a > b)
  | .geq => decide (a ≥ b)
  | _ => false
theorem mkCmp_den {fs : Facts} (hf : FactsOk Φ ρ fs) (op : BinOp) (x y : E) : ((mkCmp fs op x y).den Φ ρ).toBool = goCmp op (x.den Φ ρ).toInt (y.den Φ ρ).toInt := by
  unfold mkCmp
  split
  · exact mkEq_den hf x y
  · rw [mkNot_den, mkEq_den hf]; rfl
  · rw [resolve_sound hf, den_cmp]; rfl
  · rw [resolve_sound hf, den_cmp]; rfl
  · rw [mkNot_den, resolve_sound hf, den_cmp]
    simp only [cmpI, goCmp]
    rw [Bool.eq_iff_iff]; simp
  · rw [mkNot_den, resolve_sound hf, den_cmp]
    simp only [cmpI, goCmp]
    rw [Bool.eq_iff_iff]; simp
  · unfold goCmp
    split <;> simp_all [E.den, E.dn, Sc.toBool]
theorem den_bool (b : Bool) : ((E.bool b).den Φ ρ).toBool = b := rfl
theorem den_and (x y : E) : ((E.and x y).den Φ ρ).toBool = ((x.den Φ ρ).toBool && (y.den Φ ρ).toBool) := rfl
theorem den_eqb (x y : E) : ((E.eqb x y).den Φ ρ).toBool = ((x.den Φ ρ).toBool == (y.den Φ ρ).toBool) := rfl
theorem mkAnd_den (x y : E) : ((mkAnd x y).den Φ ρ).toBool = ((x.den Φ ρ).toBool && (y.den Φ ρ).toBool) := by
  unfold mkAnd
  split <;> simp [den_bool, den_and]
theorem mkEqb_den (x y : E) : ((mkEqb x y).den Φ ρ).toBool = ((x.den Φ ρ).toBool == (y.den Φ ρ).toBool) := by
  unfold mkEqb
  split <;> simp [den_bool, mkNot_den, den_eqb]
theorem mkIte_int (c x y : E) : ((mkIte c x y).den Φ ρ).toInt = cond (c.den Φ ρ).toBool (x.den Φ ρ).toInt (y.den Φ ρ).toInt := by
  unfold mkIte
  split
  · rfl
  · rfl
  · show (cond (c.den Φ ρ).toBool (x.den Φ ρ) (y.den Φ ρ)).toInt = _
    cases (c.den Φ ρ).toBool <;> rfl
theorem mkIte_bool (c x y : E) : ((mkIte c x y).den Φ ρ).toBool = cond (c.den Φ ρ).toBool (x.den Φ ρ).toBool (y.den Φ ρ).toBool := by
  unfold mkIte
  split
  · rfl
  · rfl
  · show (cond (c.den Φ ρ).toBool (x.den Φ ρ) (y.den Φ ρ)).toBool = _
    cases (c.den Φ ρ).toBool <;> rfl
theorem mkConv_den (k : IntKind) (x : E) : ((mkConv k x).den Φ ρ).toInt = k.wrap (x.den Φ ρ).toInt := by
  unfold mkConv
  split <;> rfl
theorem mkMx_den (x y : E) : ((mkMx x y).den Φ ρ).toInt = mxI (x.den Φ ρ).toInt (y.den Φ ρ).toInt := by
  unfold mkMx
  split <;> rfl
theorem mkMn_den (x y : E) : ((mkMn x y).den Φ ρ).toInt = mnI (x.den Φ ρ).toInt (y.den Φ ρ).toInt := by
  unfold mkMn
  split <;> rfl
end

/-! ### Constants and operands -/
section
variable {Φ : Ctx} {ρ : List Sc} {β : Bij}
theorem constCell_sound {v : Value} {c : Cell} (h : constCell v = some c) : c.rel Φ ρ β v ∧ c.known = true := by
  unfold constCell at h
  split at h <;> first | (cases h; done) | skip
  all_goals (cases h; first | exact ⟨rfl, rfl⟩ | exact ⟨⟨[], rfl, trivial⟩, rfl⟩)
theorem mapM_const (Φ : Ctx) (ρ : List Sc) (β : Bij) : ∀ {vs : List Value} {cs : List Cell}, vs.mapM constCell = some cs → Rel2 (Cell.rel Φ ρ β) cs vs ∧ cs.all Cell.known = true
  | [], cs, h => by simp at h; subst h; exact ⟨trivial, rfl⟩
  | v :: vs, cs, h => by
    simp only [List.mapM_cons, Option.bind_eq_bind, Option.pure_def] at h
    cases hc : constCell v with
    | none => simp [hc] at h
    | some c =>
      cases hr : vs.mapM constCell with
      | none => simp [hc, hr] at h
      | some r =>
        simp [hc, hr] at h
        subst h
        have h1 := constCell_sound (Φ := Φ) (ρ := ρ) (β := β) hc
        have h2 := mapM_const Φ ρ β hr
        exact ⟨⟨h1.1, h2.1⟩, by simp only [List.all_cons, h1.2, h2.2, Bool.and_self]⟩
theorem constAV_sound {v : Value} {c : AV} (h : constAV v = some c) : c.rel Φ ρ β v := by
  unfold constAV at h
  split at h
  · rename_i cs
    cases hm : cs.toList.mapM constCell with
    | none => simp [hm] at h
    | some r =>
      simp [hm] at h
      subst h
      exact ⟨cs.toList, rfl, (mapM_const Φ ρ β hm).1⟩
  · cases hc : constCell v with
    | none => simp [hc] at h
    | some r => simp [hc] at h; subst h; exact (constCell_sound hc).1
theorem constTV_sound {v : Value} {c : TV} (h : constTV v = some c) : c.rel Φ ρ β v := by
  unfold constTV at h
  split at h
  · cases h; exact ⟨[], rfl, trivial⟩
  · cases hc : constAV v with
    | none => simp [hc] at h
    | some r => simp [hc] at h; subst h; exact constAV_sound hc
theorem evalA_sound {tm : Nat → Option TV} {a : Act} (hI : ∀ (t : Nat) (x : TV), tm t = some x → ∃ y, a.tmps[t]? = some y ∧ x.rel Φ ρ β y) {x : Operand} {tv : TV} (h : evalV tm x = some tv) : tv.rel Φ ρ β (a.eval x) := by
  cases x with
  | tmp t =>
    obtain ⟨y, hy, hr⟩ := hI t tv h
    simpa [Act.eval, Array.getD_eq_getD_getElem?, hy] using hr
  | const v => exact constTV_sound h
  | global g => cases h
  | func f => cases h; exact ⟨[], rfl, trivial⟩
theorem mapM_eval {tm : Nat → Option TV} {a : Act} (hI : ∀ (t : Nat) (x : TV), tm t = some x → ∃ y, a.tmps[t]? = some y ∧ x.rel Φ ρ β y) : ∀ {xs : List Operand} {vs : List TV}, xs.mapM (evalV tm) = some vs → Rel2 (TV.rel Φ ρ β) vs (xs.map a.eval)
  | [], vs, h => by simp at h; subst h; trivial
  | x :: xs, vs, h => by
    simp only [List.mapM_cons, Option.bind_eq_bind, Option.pure_def] at h
    cases hc : evalV tm x with
    | none => simp [hc] at h
    | some c =>
      cases hr : xs.mapM (evalV tm) with
      | none => simp [hc, hr] at h
      | some r =>
        simp [hc, hr] at h
        subst h
        exact ⟨evalA_sound hI hc, mapM_eval hI hr⟩
end

/-! ### Contracts -/
def K.val : K → Sc → Value
  | .int k, s => .int k s.toInt
  | .bool, s => .bool s.toBool
  | .str, s => .string s.toStr
def K.is : K → Sc → Prop
  | .int _, s => ∃ n, s = .int n
  | .bool, s => ∃ b, s = .bool b
  | .str, s => ∃ t, s = .str t
def packCells : List K → List Sc → List Value
  | [], _ => []
  | k :: ks, l => k.val (l.getD 0 (.int 0)) :: packCells ks (l.drop 1)
def packOne : Sh → List Sc → Value
  | .one k, l => k.val (l.getD 0 (.int 0))
  | .agg ks, l => .agg (packCells ks l).toArray
def packs : List Sh → List Sc → List Value
  | [], _ => []
  | s :: ss, l => packOne s l :: packs ss (l.drop s.size)
def packRes (ss : List Sh) (l : List Sc) : Value :=
  match packs ss l with
  | [v] => v
  | vs => .tuple vs.toArray
def Sh.kinds : Sh → List K
  | .one k => [k]
  | .agg ks => ks
def shKinds : List Sh → List K
  | [] => []
  | s :: ss => s.kinds ++ shKinds ss
def Canon (ss : List Sh) (l : List Sc) : Prop := Rel2 K.is (shKinds ss) l
def CstOk (sg : Sig) (r : List Sc) : Prop :=
  match sg.cst with
  | none => True
  | some c => match sg.res with
    | [.one (.int k)] => packRes sg.res r = .int k c
    | [.one .bool] => packRes sg.res r = .bool (c == 1)
    | _ => True
def Contract (P : Program) (f : Nat) (sg : Sig) (sem : FnSem) : Prop :=
  (∀ l, sem.pre l = true → CstOk sg (sem.res l)) ∧
  match sg.off with
  | some n => ∀ (b o : Nat) (i : Int) (w : World), GG w → 0 ≤ i → i < n → Calls P f #[.pointer (some ⟨b, o, none⟩), .int .i64 i] w fun e w' => e = .returned (.pointer (some ⟨b, o + i.toNat, none⟩)) ∧ Below w.heap.size w w'
  | none => match sg.lst with
  | some k => ∀ l w b o cap, GG w → (∀ s ∈ l, k.is s) → 0 < l.length → (∀ (i : Nat) (s : Sc), l[i]? = some s → w.cell? ⟨b, o + i, none⟩ = some (k.val s)) → sem.pre l = true →
      Calls P f #[.slice (some ⟨b, o, none⟩) l.length cap] w fun e w' => e = .returned (packRes sg.res (sem.res l)) ∧ Below w.heap.size w w'
  | none => ∀ l w, GG w → Canon sg.args l → sem.pre l = true → if callable P f = true then Calls P f (packs sg.args l).toArray w fun e w' => e = .returned (packRes sg.res (sem.res l)) ∧ Below w.heap.size w w'
    else (callFunc f (packs sg.args l).toArray).run P w = .ok (.value (packRes sg.res (sem.res l))) w

section
variable {Φ : Ctx} {ρ : List Sc} {β : Bij}
theorem dens_listE : ∀ es : List E, (listE es).dens Φ ρ = es.map (E.den Φ ρ)
  | [] => rfl
  | e :: es => by
    have := dens_listE es
    simp only [List.map_cons, ← this]
    rfl
theorem flatCell_sound {k : K} {c : Cell} {e : E} (h : flatCell k c = some e) {v : Value} (hr : c.rel Φ ρ β v) : v = k.val (e.den Φ ρ) ∧ k.is (e.den Φ ρ) := by
  unfold flatCell at h
  split at h <;> first | (cases h; done) | skip
  · split at h
    · rename_i e' hk
      subst hk
      cases h
      exact ⟨hr, _, rfl⟩
    · cases h
  · cases h; exact ⟨hr, _, rfl⟩
  · cases h; exact ⟨hr, _, rfl⟩
theorem flatCells_sound : ∀ {ks : List K} {cs : List Cell} {es : List E}, flatCells ks cs = some es → ∀ {vs : List Value}, Rel2 (Cell.rel Φ ρ β) cs vs →
    (∀ r, vs = packCells ks (es.map (E.den Φ ρ) ++ r)) ∧ Rel2 K.is ks (es.map (E.den Φ ρ)) ∧ es.length = ks.length
  | [], [], es, h, vs, hr => by
    simp [flatCells] at h; subst h
    cases vs with
    | nil => exact ⟨fun _ => rfl, trivial, rfl⟩
    | cons _ _ => exact hr.elim
  | k :: ks, c :: cs, es, h, vs, hr => by
    simp only [flatCells] at h
    split at h
    · rename_i e es' h1 h2
      cases h
      cases vs with
      | nil => exact hr.elim
      | cons v vs =>
        obtain ⟨a1, a2⟩ := flatCell_sound h1 hr.1
        obtain ⟨b1, b2, b3⟩ := flatCells_sound h2 hr.2
        refine ⟨fun r => ?_, ⟨a2, b2⟩, by simp [b3]⟩
        simp only [packCells, List.map_cons, List.cons_append, List.getD_cons_zero, List.drop_succ_cons, List.drop_zero]
        rw [← a1, ← b1 r]
    · cases h
  | [], _ :: _, es, h, vs, hr => by simp [flatCells] at h
  | _ :: _, [], es, h, vs, hr => by simp [flatCells] at h
theorem flatAV_sound {s : Sh} {x : AV} {es : List E} (h : flatAV s x = some es) {v : Value} (hr : x.rel Φ ρ β v) :
    (∀ r, v = packOne s (es.map (E.den Φ ρ) ++ r)) ∧ Rel2 K.is s.kinds (es.map (E.den Φ ρ)) ∧ es.length = s.size := by
  unfold flatAV at h
  split at h
  · rename_i k c
    obtain ⟨h1, h2, h3⟩ := flatCells_sound h (vs := [v]) ⟨hr, trivial⟩
    refine ⟨fun r => ?_, h2, h3⟩
    have := h1 r
    simp only [packCells, List.cons.injEq, and_true] at this
    exact this
  · rename_i ks cs
    obtain ⟨vs, rfl, hc⟩ := hr
    obtain ⟨h1, h2, h3⟩ := flatCells_sound h hc
    exact ⟨fun r => by simp only [packOne]; rw [← h1 r], h2, h3⟩
  · cases h
theorem flatAVs_sound : ∀ {ss : List Sh} {xs : List AV} {es : List E}, flatAVs ss xs = some es → ∀ {vs : List Value}, Rel2 (AV.rel Φ ρ β) xs vs →
    vs = packs ss (es.map (E.den Φ ρ)) ∧ Canon ss (es.map (E.den Φ ρ))
  | [], [], es, h, vs, hr => by
    simp [flatAVs] at h; subst h
    cases vs with
    | nil => exact ⟨rfl, trivial⟩
    | cons _ _ => exact hr.elim
  | s :: ss, x :: xs, es, h, vs, hr => by
    simp only [flatAVs] at h
    split at h
    · rename_i e es' h1 h2
      cases h
      cases vs with
      | nil => exact hr.elim
      | cons v vs =>
        obtain ⟨a1, a2, a3⟩ := flatAV_sound h1 hr.1
        obtain ⟨b1, b2⟩ := flatAVs_sound h2 hr.2
        refine ⟨?_, ?_⟩
        · simp only [packs, List.map_append]
          rw [← a1, List.drop_left' (by simpa using a3), ← b1]
        · simp only [Canon, shKinds, List.map_append]
          exact a2.append b2
    · cases h
  | [], _ :: _, es, h, vs, hr => by simp [flatAVs] at h
  | _ :: _, [], es, h, vs, hr => by simp [flatAVs] at h
theorem K.cell_rel (k : K) (e : E) : (k.cell e).rel Φ ρ β (k.val (e.den Φ ρ)) := by cases k <;> rfl
theorem resCells_sound (f : Nat) (a : E) : ∀ (ks : List K) (i : Nat), Rel2 (Cell.rel Φ ρ β) (resCells f a ks i) (packCells ks (((Φ f).res (a.dens Φ ρ)).drop i))
  | [], _ => trivial
  | k :: ks, i => by
    refine ⟨?_, ?_⟩
    · have := K.cell_rel (Φ := Φ) (ρ := ρ) (β := β) k (.app f a i)
      have e : (E.app f a i).den Φ ρ = (((Φ f).res (a.dens Φ ρ)).drop i).getD 0 (.int 0) := by
        show ((Φ f).res _).getD i _ = _
        simp [List.getD_eq_getElem?_getD, E.dens]
      rw [e] at this
      exact this
    · have := resCells_sound f a ks (i + 1)
      rwa [← List.drop_drop] at this
theorem resAVs_sound (f : Nat) (a : E) : ∀ (ss : List Sh) (i : Nat), Rel2 (AV.rel Φ ρ β) (resAVs f a ss i) (packs ss (((Φ f).res (a.dens Φ ρ)).drop i))
  | [], _ => trivial
  | s :: ss, i => by
    refine ⟨?_, ?_⟩
    · cases s with
      | one k => exact (resCells_sound f a [k] i).1
      | agg ks => exact ⟨_, rfl, resCells_sound f a ks i⟩
    · have := resAVs_sound f a ss (i + s.size)
      rwa [← List.drop_drop] at this
theorem tvOf_sound : ∀ {xs : List AV} {vs : List Value}, Rel2 (AV.rel Φ ρ β) xs vs → (tvOf xs).rel Φ ρ β (match vs with | [v] => v | vs => .tuple vs.toArray)
  | [], [], h => ⟨[], rfl, h⟩
  | [x], [v], h => h.1
  | x :: x' :: xs, v :: v' :: vs, h => ⟨_, rfl, h⟩
  | [], _ :: _, h => h.elim
  | _ :: _, [], h => h.elim
  | [_], _ :: _ :: _, h => h.2.elim
  | _ :: _ :: _, [_], h => h.2.elim
theorem res_sound (f : Nat) (a : E) (ss : List Sh) : (tvOf (resAVs f a ss 0)).rel Φ ρ β (packRes ss ((Φ f).res (a.dens Φ ρ))) := by
  have := tvOf_sound (resAVs_sound (Φ := Φ) (ρ := ρ) (β := β) f a ss 0)
  simpa [packRes] using this
theorem resTV_sound (sg : Sig) (f : Nat) (a : E) (h : CstOk sg ((Φ f).res (a.dens Φ ρ))) : (resTV sg f a).rel Φ ρ β (packRes sg.res ((Φ f).res (a.dens Φ ρ))) := by
  unfold resTV
  unfold CstOk at h
  split
  · exact res_sound f a sg.res
  · rename_i c hc
    rw [hc] at h
    simp only at h
    split
    · rename_i k hk
      rw [hk] at h
      rw [hk, h]
      rfl
    · rename_i hk
      rw [hk] at h
      rw [hk, h]
      rfl
    · trivial
end
end Go.Sx
