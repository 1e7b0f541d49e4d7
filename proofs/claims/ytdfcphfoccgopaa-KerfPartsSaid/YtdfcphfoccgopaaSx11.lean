/- A symbolic executor over the loaded program of a seat: a region that draws its order. -/
import Derived.Test.YtdfcphfoccgopaaSx10
namespace Go.Sx
open Go.RowKit (Below)
set_option linter.unusedVariables false
set_option linter.unusedSimpArgs false

section
variable {C : Cfg} {Φ : Ctx} {w0 : World}
def vApp (v : View) (r : Rec) : View := (v.put r.dst r.tv).eff r.eff
def MemRel (C : Cfg) (o : Oper) (vs : List TV) (mem : Option (List Cell)) (v : View) : Prop :=
  ∀ b off n cs, foot C o.op vs = some (b, off, n) → mem = some cs → cs.length = n ∧ ∀ i c, cs[i]? = some c → v.cell b (off + i) = some c
/-- What record i tells of operation i, at a view. -/
def OpAt (C : Cfg) (Φ : Ctx) (ρ : List Sc) (w0 : World) (ops : Array Oper) (base i : Nat) (o : Oper) (r : Rec) (v : View) : Prop :=
  r.dst = o.dst ∧ r.looks = looksOf ops.toList o ∧ (∀ d, o.dst = some d → ∃ z, v.tm d = some z) ∧ (∀ id b, r.eff = .new id b → id = base + i) ∧
  ((wantedV ops.toList v.tm o = some false ∧ r.tv = .undef ∧ r.eff = .no) ∨
   (wantedV ops.toList v.tm o = some true ∧ ∃ vs mem, operandsV v.tm o.op = some vs ∧ MemRel C o vs mem v ∧ Good C Φ ρ w0 o vs mem (base + i) r.tv r.eff ∧ r.rd = foot C o.op vs))
theorem EffApply_length (heap : List (Option Blk)) (e : Eff) : (e.apply heap).length = heap.length := by
  cases e with
  | no => rfl
  | new id b => simp [Eff.apply]
  | wr b o cs => simp only [Eff.apply]; split <;> simp
theorem drawOps_sound (hcon : ∀ f sg, C.con f = some sg → Contract C.P f sg (Φ f)) {ρ : List Sc} {ops : Array Oper} {base : Nat} :
    ∀ (rest : List Oper) (i : Nat) (σ : St) (Q : St × List Rec → Prop), (drawOps C ops.toList base i rest σ).holds Φ ρ Q → FactsOk Φ ρ σ.facts → base + i + rest.length ≤ σ.heap.length →
    ∃ σ' rs, Q (σ', rs) ∧ FactsOk Φ ρ σ'.facts ∧ σ'.nv = σ.nv ∧ rs.length = rest.length ∧ viewOf σ'.tm σ'.heap = rs.foldl vApp (viewOf σ.tm σ.heap) ∧
      ∀ k o r, rest[k]? = some o → rs[k]? = some r → OpAt C Φ ρ w0 ops base (i + k) o r ((rs.take k).foldl vApp (viewOf σ.tm σ.heap))
  | [], i, σ, Q, h, hf, _ => ⟨σ, [], h, hf, rfl, rfl, rfl, fun k o r h => by simp at h⟩
  | o :: rest, i, σ, Q, h, hf, hlen => by
    simp only [List.length_cons] at hlen
    unfold drawOps at h
    split at h
    · rename_i hd
      split at h
      · exact h.elim
      · rename_i hw
        obtain ⟨σ', rs, hQ, hf', hnv, hl, hv, hall⟩ := drawOps_sound hcon rest (i + 1) _ _ (bindR_holds h) hf (by simp only; omega)
        refine ⟨σ', _, hQ, hf', hnv, by simp [hl], ?_, ?_⟩
        · rw [hv]
          simp only [List.foldl_cons, viewOf_put hd]
          rfl
        · intro k o' r ho' hr
          cases k with
          | zero =>
            simp at ho' hr
            subst ho'
            subst hr
            exact ⟨rfl, rfl, dst_some hd, (fun id b he => by cases he), Or.inl ⟨hw, rfl, rfl⟩⟩
          | succ k =>
            have := hall k o' r (by simpa using ho') (by simpa using hr)
            rw [show i + (k + 1) = i + 1 + k by omega]
            simp only [List.take_succ_cons, List.foldl_cons]
            rw [viewOf_put hd] at this
            exact this
      · rename_i hw
        split at h
        · exact h.elim
        · rename_i vs hvs
          obtain ⟨fs', tv, eff, hf1, hT, hgood, heff⟩ := opR_sound hcon (bindR_holds h) hf w0
          obtain ⟨σ', rs, hQ, hf', hnv, hl, hv, hall⟩ := drawOps_sound hcon rest (i + 1) _ _ (bindR_holds hT) hf1 (by simp only [EffApply_length]; omega)
          have hview : viewOf (putA σ.tm o.dst tv) (eff.apply σ.heap) = ((viewOf σ.tm σ.heap).put o.dst tv).eff eff := by
            rw [viewOf_eff (C := C) (op := o.op) (vs := vs) (id := base + i) (by omega) heff, viewOf_put hd]
          refine ⟨σ', _, hQ, hf', hnv, by simp [hl], ?_, ?_⟩
          · rw [hv]
            simp only [List.foldl_cons, hview]
            rfl
          · intro k o' r ho' hr
            cases k with
            | zero =>
              simp at ho' hr
              subst ho'
              subst hr
              refine ⟨rfl, rfl, dst_some hd, fun id b he => ?_, Or.inr ⟨hw, vs, memOf C σ.heap o.op vs, hvs, fun b off n cs hfoot hmem => ?_, hgood, rfl⟩⟩
              · simp only at he
                subst he
                exact heff
              · unfold memOf at hmem
                rw [hfoot, Option.bind_some] at hmem
                exact readH_sound hmem
            | succ k =>
              have := hall k o' r (by simpa using ho') (by simpa using hr)
              rw [show i + (k + 1) = i + 1 + k by omega]
              simp only [List.take_succ_cons, List.foldl_cons]
              rw [hview] at this
              exact this
    · exact h.elim

/-! ### Folds over what has been done -/
def foldL (ls : Nat → Bool) : Nat → List Rec → View → View
  | _, [], v => v
  | k, r :: rs, v => foldL ls (k + 1) rs (if ls k then vApp v r else v)
theorem foldL_get {X : Type} (g : View → X) (W : Rec → Prop) (hw : ∀ v r, ¬ W r → g (vApp v r) = g v) (hw' : ∀ v v' r, g v = g v' → g (vApp v r) = g (vApp v' r)) {ls ls' : Nat → Bool} :
    ∀ (rs : List Rec) (k : Nat) (v v' : View), g v = g v' → (∀ j r, rs[j]? = some r → W r → ls (k + j) = ls' (k + j)) → g (foldL ls k rs v) = g (foldL ls' k rs v')
  | [], _, _, _, h, _ => h
  | r :: rs, k, v, v', h, hl => by
    simp only [foldL]
    refine foldL_get g W hw hw' rs (k + 1) _ _ ?_ fun j x hx hW => ?_
    · by_cases hW : W r
      · have := hl 0 r (by simp) hW
        simp only [Nat.add_zero] at this
        rw [this]
        split
        · exact hw' _ _ _ h
        · exact h
      · have h1 := hw v r hW
        have h2 := hw v' r hW
        split <;> split <;> simp [h1, h2, h]
    · have := hl (j + 1) x (by simpa using hx) hW
      rwa [show k + (j + 1) = k + 1 + j by omega] at this
theorem foldL_prefix : ∀ (rs : List Rec) (s k : Nat) (v : View), foldL (fun j => decide (j < k)) s rs v = (rs.take (k - s)).foldl vApp v
  | [], s, k, v => by simp [foldL]
  | r :: rs, s, k, v => by
    simp only [foldL]
    rw [foldL_prefix rs (s + 1) k]
    by_cases h : s < k
    · rw [show k - s = (k - (s + 1)) + 1 by omega]
      simp [h]
    · rw [show k - s = 0 by omega, show k - (s + 1) = 0 by omega]
      simp [h]
theorem foldL_all {ls : Nat → Bool} : ∀ (rs : List Rec) (s : Nat) (v : View), (∀ j, j < rs.length → ls (s + j) = true) → foldL ls s rs v = rs.foldl vApp v
  | [], _, _, _ => rfl
  | r :: rs, s, v, h => by
    have h0 := h 0 (by simp)
    simp only [Nat.add_zero] at h0
    simp only [foldL, h0, if_true, List.foldl_cons]
    refine foldL_all rs (s + 1) _ fun j hj => ?_
    have := h (j + 1) (by simp; omega)
    rwa [show s + (j + 1) = s + 1 + j by omega] at this
theorem foldL_congr {ls ls' : Nat → Bool} : ∀ (rs : List Rec) (s : Nat) (v : View), (∀ j, j < rs.length → ls (s + j) = ls' (s + j)) → foldL ls s rs v = foldL ls' s rs v
  | [], _, _, _ => rfl
  | r :: rs, s, v, h => by
    have h0 := h 0 (by simp)
    simp only [Nat.add_zero] at h0
    simp only [foldL, h0]
    refine foldL_congr rs (s + 1) _ fun j hj => ?_
    have := h (j + 1) (by simp; omega)
    rwa [show s + (j + 1) = s + 1 + j by omega] at this
theorem foldL_comm {ls : Nat → Bool} {r : Rec} : ∀ (rs : List Rec) (s : Nat) (v : View), (∀ j x, rs[j]? = some x → ls (s + j) = true → ∀ v, vApp (vApp v r) x = vApp (vApp v x) r) →
    foldL ls s rs (vApp v r) = vApp (foldL ls s rs v) r
  | [], _, _, _ => rfl
  | x :: rs, s, v, h => by
    simp only [foldL]
    have h' : ∀ j y, rs[j]? = some y → ls (s + 1 + j) = true → ∀ v, vApp (vApp v r) y = vApp (vApp v y) r := fun j y hy hl => h (j + 1) y (by simpa using hy) (by rwa [show s + (j + 1) = s + 1 + j by omega])
    split
    · rename_i hs
      rw [h 0 x (by simp) (by simpa using hs) v]
      exact foldL_comm rs (s + 1) _ h'
    · exact foldL_comm rs (s + 1) _ h'
theorem foldL_insert {ls ls' : Nat → Bool} {r : Rec} : ∀ (rs : List Rec) (s i : Nat) (v : View), rs[i]? = some r → ls (s + i) = false → ls' (s + i) = true → (∀ j, j ≠ s + i → ls' j = ls j) →
    (∀ j x, i < j → rs[j]? = some x → ls (s + j) = true → ∀ v, vApp (vApp v r) x = vApp (vApp v x) r) → foldL ls' s rs v = vApp (foldL ls s rs v) r
  | [], _, _, _, h, _, _, _, _ => by simp at h
  | x :: rs, s, 0, v, h, h0, h1, hne, hc => by
    simp at h
    subst h
    simp only [Nat.add_zero] at h0 h1 hne hc
    simp only [foldL, h0, h1, if_true, Bool.false_eq_true, if_false]
    rw [foldL_congr (ls := ls') (ls' := ls) rs (s + 1) _ fun j hj => hne _ (by omega)]
    exact foldL_comm rs (s + 1) v fun j y hy hl => hc (j + 1) y (by omega) (by simpa using hy) (by rwa [show s + (j + 1) = s + 1 + j by omega])
  | x :: rs, s, i + 1, v, h, h0, h1, hne, hc => by
    simp only [foldL]
    rw [hne s (by omega)]
    refine foldL_insert rs (s + 1) i _ (by simpa using h) (by rwa [show s + 1 + i = s + (i + 1) by omega]) (by rwa [show s + 1 + i = s + (i + 1) by omega]) (fun j hj => hne j (by omega)) fun j y hij hy hl => ?_
    exact hc (j + 1) y (by omega) (by simpa using hy) (by rwa [show s + (j + 1) = s + 1 + j by omega])

/-! ### Records that do not clash -/
def Rec.wrTm (t : Nat) (r : Rec) : Prop := r.dst = some t
def Rec.wrCell (b o : Nat) (r : Rec) : Prop := match r.eff with
  | .no => False
  | .new id _ => id = b
  | .wr b' o' cs => b' = b ∧ o' ≤ o ∧ o < o' + cs.length
def Rec.wrTy (b : Nat) (r : Rec) : Prop := match r.eff with
  | .new id _ => id = b
  | _ => False
theorem vApp_tm (v : View) (r : Rec) (t : Nat) : (vApp v r).tm t = if r.dst = some t then some r.tv else v.tm t := by
  unfold vApp
  rw [eff_tm]
  rfl
theorem vApp_tm_ne {v : View} {r : Rec} {t : Nat} (h : ¬ r.wrTm t) : (vApp v r).tm t = v.tm t := by rw [vApp_tm]; exact if_neg h
theorem vApp_cell (v : View) (r : Rec) (b o : Nat) : (vApp v r).cell b o = match r.eff with
    | .no => v.cell b o
    | .new id blk => if b = id then blk.cells[o]? else v.cell b o
    | .wr b' o' cs => if b = b' ∧ o' ≤ o ∧ o < o' + cs.length then cs[o - o']? else v.cell b o := by
  unfold vApp
  cases r.eff <;> rfl
theorem vApp_cell_ne {v : View} {r : Rec} {b o : Nat} (h : ¬ r.wrCell b o) : (vApp v r).cell b o = v.cell b o := by
  rw [vApp_cell]
  unfold Rec.wrCell at h
  split
  · rfl
  · rename_i id blk he; rw [he] at h; rw [if_neg (fun e => h e.symm)]
  · rename_i b' o' cs he; rw [he] at h; rw [if_neg (fun e => h ⟨e.1.symm, e.2⟩)]
theorem vApp_ty (v : View) (r : Rec) (b : Nat) : (vApp v r).ty b = match r.eff with
    | .new id blk => if b = id then some blk.ty else v.ty b
    | _ => v.ty b := by
  unfold vApp
  cases r.eff <;> rfl
theorem vApp_ty_ne {v : View} {r : Rec} {b : Nat} (h : ¬ r.wrTy b) : (vApp v r).ty b = v.ty b := by
  rw [vApp_ty]
  unfold Rec.wrTy at h
  split
  · rename_i id blk he; rw [he] at h; rw [if_neg (fun e => h e.symm)]
  · rfl
theorem touch_meet {x y : Rec} (h : meet x.eff.touch y.eff.touch = false) (b o : Nat) : ¬ (x.wrCell b o ∧ y.wrCell b o) := by
  rintro ⟨h1, h2⟩
  unfold Rec.wrCell at h1 h2
  cases hx : x.eff with
  | no => rw [hx] at h1; exact h1
  | new id blk =>
    rw [hx] at h1 h
    cases hy : y.eff with
    | no => rw [hy] at h2; exact h2
    | new id' blk' =>
      rw [hy] at h2 h
      simp only at h1 h2
      subst h1
      subst h2
      simp [meet, Eff.touch] at h
    | wr b' o' cs =>
      rw [hy] at h2 h
      simp only at h1 h2
      subst h1
      obtain ⟨rfl, _⟩ := h2
      simp [meet, Eff.touch] at h
  | wr b' o' cs =>
    rw [hx] at h1 h
    obtain ⟨rfl, h3, h4⟩ := h1
    cases hy : y.eff with
    | no => rw [hy] at h2; exact h2
    | new id' blk' =>
      rw [hy] at h2 h
      simp only at h2
      subst h2
      simp [meet, Eff.touch] at h
    | wr b2 o2 cs2 =>
      rw [hy] at h2 h
      obtain ⟨rfl, h5, h6⟩ := h2
      simp [meet, Eff.touch] at h
      omega
theorem touch_meet_ty {x y : Rec} (h : meet x.eff.touch y.eff.touch = false) (b : Nat) : ¬ (x.wrTy b ∧ y.wrTy b) := by
  rintro ⟨h1, h2⟩
  unfold Rec.wrTy at h1 h2
  cases hx : x.eff with
  | new id blk =>
    cases hy : y.eff with
    | new id' blk' =>
      rw [hx] at h1 h
      rw [hy] at h2 h
      simp only at h1 h2
      subst h1
      subst h2
      simp [meet, Eff.touch] at h
    | no => rw [hy] at h2; exact h2
    | wr _ _ _ => rw [hy] at h2; exact h2
  | no => rw [hx] at h1; exact h1
  | wr _ _ _ => rw [hx] at h1; exact h1
theorem View.ext' {v v' : View} (h1 : ∀ t, v.tm t = v'.tm t) (h2 : ∀ b o, v.cell b o = v'.cell b o) (h3 : ∀ b, v.ty b = v'.ty b) : v = v' := by
  cases v
  cases v'
  simp only [View.mk.injEq]
  exact ⟨funext h1, funext fun b => funext (h2 b), funext h3⟩
theorem clash_comm {x y : Rec} (h : x.clash y = false) (v : View) : vApp (vApp v x) y = vApp (vApp v y) x := by
  simp only [Rec.clash, Bool.or_eq_false_iff] at h
  obtain ⟨⟨⟨⟨hd, _⟩, hm⟩, _⟩, _⟩ := h
  refine View.ext' (fun t => ?_) (fun b o => ?_) fun b => ?_
  · by_cases hx : x.wrTm t
    · have hy : ¬ y.wrTm t := by
        unfold Rec.wrTm at hx ⊢
        intro hy
        rw [hx] at hd
        simp [hy] at hd
      rw [vApp_tm_ne hy, vApp_tm, vApp_tm]
      simp [show x.dst = some t from hx]
    · rw [vApp_tm_ne (v := vApp v y) hx, vApp_tm (vApp v x) y, vApp_tm v y, vApp_tm_ne hx]
  · by_cases hx : x.wrCell b o
    · have hy : ¬ y.wrCell b o := fun hy => touch_meet hm b o ⟨hx, hy⟩
      rw [vApp_cell_ne hy, vApp_cell v x, vApp_cell (vApp v y) x, vApp_cell_ne hy]
    · rw [vApp_cell_ne (v := vApp v y) hx, vApp_cell (vApp v x) y, vApp_cell v y, vApp_cell_ne hx]
  · by_cases hx : x.wrTy b
    · have hy : ¬ y.wrTy b := fun hy => touch_meet_ty hm b ⟨hx, hy⟩
      rw [vApp_ty_ne hy, vApp_ty v x, vApp_ty (vApp v y) x, vApp_ty_ne hy]
    · rw [vApp_ty_ne (v := vApp v y) hx, vApp_ty (vApp v x) y, vApp_ty v y, vApp_ty_ne hx]
end
end Go.Sx
