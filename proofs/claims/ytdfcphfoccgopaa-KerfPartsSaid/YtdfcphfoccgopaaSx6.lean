/- A symbolic executor over the loaded program of a seat: one operation. -/
import Derived.Test.YtdfcphfoccgopaaSx5
namespace Go.Sx
open Go.RowKit (Below)
set_option linter.unusedVariables false
set_option linter.unusedSimpArgs false

section
variable {C : Cfg} {Φ : Ctx} {ρ : List Sc} {w0 : World} {β0 β : Bij} {v : View} {a : Act} {w : World}
/-- What one operation does: its value, its effect on memory. -/
def Does (C : Cfg) (Φ : Ctx) (ρ : List Sc) (w0 : World) (β0 β : Bij) (v : View) (a : Act) (w : World) (o : Oper) (tv : TV) (eff : Eff) : Prop :=
  ∀ (K : Act → World → Prop) (Q : Exit → Act → World → Prop), (∀ β' a' w', Bij.le β β' → Inv Φ ρ w0 β0 ((v.put o.dst tv).eff eff) β' a' w' → K a' w') → o.wp C.P a w K Q
theorem Bij.le_refl (β : Bij) : Bij.le β β := fun _ _ h => ⟨h, rfl⟩
theorem Bij.le_trans {β β' β'' : Bij} (h : Bij.le β β') (h' : Bij.le β' β'') : Bij.le β β'' := fun b n hb => ⟨(h' _ _ (h _ _ hb).1).1, by rw [(h' _ _ (h _ _ hb).1).2, (h _ _ hb).2]⟩
theorem does_no (hI : Inv Φ ρ w0 β0 v β a w) {o : Oper} (hd : ∀ d, o.dst = some d → ∃ z, v.tm d = some z) {tv : TV} {y : Value}
    (hr : (execOp a.eval o).run C.P w = .ok (.value y) w) (hy : tv.rel Φ ρ β y) : Does C Φ ρ w0 β0 β v a w o tv .no :=
  fun K Q hK => wp_val hr (hK β _ _ (Bij.le_refl β) (hI.put hd hy))
theorem does_new (hI : Inv Φ ρ w0 β0 v β a w) {o : Oper} (hd : ∀ d, o.dst = some d → ∃ z, v.tm d = some z) {tv : TV} {y : Value} {id : Nat} (hid : v.ty id = none) {blk : Blk} {cs : List Value}
    (hc : Rel2 (Cell.rel Φ ρ β) blk.cells cs) (hr : (execOp a.eval o).run C.P w = .ok (.value y) (w.alloc (.cells cs.toArray blk.ty)))
    (hy : tv.rel Φ ρ (β.ext id w.heap.size cs.length) y) : Does C Φ ρ w0 β0 β v a w o tv (.new id blk) := by
  intro K Q hK
  obtain ⟨hle, hI'⟩ := hI.new hid hc
  refine wp_val hr (hK _ _ _ hle ?_)
  have := hI'.put (dst := o.dst) (x := tv) (y := y) (by intro d hd'; exact hd d hd') hy
  exact this
theorem does_wr (hI : Inv Φ ρ w0 β0 v β a w) {o : Oper} (hd : ∀ d, o.dst = some d → ∃ z, v.tm d = some z) {b off n : Nat} {cs : List Cell} {ys : List Value} (hb : β b = some n)
    (hold : ∀ i, i < cs.length → ∃ c, v.cell b (off + i) = some c) (hc : Rel2 (Cell.rel Φ ρ β) cs ys)
    (hr : (execOp a.eval o).run C.P w = .ok .skip (w.setCells n off ys)) : Does C Φ ρ w0 β0 β v a w o .undef (.wr b off cs) := by
  intro K Q hK
  refine wp_skip' hr (hK β _ _ (Bij.le_refl β) ?_)
  exact (hI.wr hb hold hc).put (dst := o.dst) (by intro d hd'; exact hd d hd') undef_rel

/-! ### Operations -/
theorem rel1 {R : TV → Value → Prop} {x : TV} {us : List Value} (h : Rel2 R [x] us) : ∃ u, us = [u] ∧ R x u := by
  cases us with
  | nil => exact h.elim
  | cons u r => cases r with
    | nil => exact ⟨u, rfl, h.1⟩
    | cons _ _ => exact h.2.elim
theorem rel2 {R : TV → Value → Prop} {x y : TV} {us : List Value} (h : Rel2 R [x, y] us) : ∃ u v, us = [u, v] ∧ R x u ∧ R y v := by
  cases us with
  | nil => exact h.elim
  | cons u r => obtain ⟨v, rfl, hv⟩ := rel1 h.2; exact ⟨u, v, rfl, h.1, hv⟩
theorem rel3 {R : TV → Value → Prop} {x y z : TV} {us : List Value} (h : Rel2 R [x, y, z] us) : ∃ u v t, us = [u, v, t] ∧ R x u ∧ R y v ∧ R z t := by
  cases us with
  | nil => exact h.elim
  | cons u r => obtain ⟨v, t, rfl, hv, ht⟩ := rel2 h.2; exact ⟨u, v, t, rfl, h.1, hv, ht⟩

theorem intOp_run (P : Program) (w : World) (op : BinOp) (t : TypeId) (k : IntKind) (m n : Int) (x y : Operand) :
    (match op with
     | .add | .sub | .mul | .and | .or | .xor | .andNot => ((do eqGuard op t x y (.int k m) (.int k n); binOp op t (.int k m) (.int k n) : Sem Value)).run P w = .ok (.int k (arI op k m n)) w
     | .quo | .rem => n ≠ 0 → ((do eqGuard op t x y (.int k m) (.int k n); binOp op t (.int k m) (.int k n) : Sem Value)).run P w = .ok (.int k (arI op k m n)) w
     | .eql | .neq | .lss | .leq | .gtr | .geq => ((do eqGuard op t x y (.int k m) (.int k n); binOp op t (.int k m) (.int k n) : Sem Value)).run P w = .ok (.bool (goCmp op m n)) w
     | _ => True) := by
  cases op <;> simp [eqGuard, binOp, Op.intArith, Op.intDiv, Op.intCmp, arI, goCmp, intBits_and, intBits_or, intBits_xor, intBits_andNot]
  all_goals (intro h; simp [h])
theorem shiftOp_run (P : Program) (w : World) (op : BinOp) (hop : op = .shl ∨ op = .shr) (t : TypeId) (k k' : IntKind) (m n : Int) (hn : 0 ≤ n) (x y : Operand) :
    ((do eqGuard op t x y (.int k m) (.int k' n); binOp op t (.int k m) (.int k' n) : Sem Value)).run P w = .ok (.int k (arI op k m n)) w := by
  rcases hop with rfl | rfl <;> simp [eqGuard, binOp, Op.shift, arI, Int.not_lt.2 hn]
theorem binA_sound {P : Program} {fs : Facts} (hf : FactsOk Φ ρ fs) {op : BinOp} {t : TypeId} {x y : TV} {needs : List Need} {tv : TV} {eff : Eff} (h : binA P fs op t x y = .ok needs tv eff)
    (hn : ∀ n ∈ needs, n.holds Φ ρ = true) {u u' : Value} (hx : x.rel Φ ρ β u) (hy : y.rel Φ ρ β u') (X Y : Operand) :
    eff = .no ∧ ∃ z, ((do eqGuard op t X Y u u'; binOp op t u u' : Sem Value)).run P w = .ok z w ∧ tv.rel Φ ρ β z := by
  unfold binA at h
  split at h
  · rename_i k x k' y
    obtain rfl : u = .int k (x.den Φ ρ).toInt := hx
    obtain rfl : u' = .int k' (y.den Φ ρ).toInt := hy
    split at h
    · cases h
      refine ⟨rfl, _, shiftOp_run P w _ (Or.inl rfl) t k k' _ _ ?_ X Y, by show _ = _; rw [mkAr_den]⟩
      have := hn _ (List.mem_singleton.2 rfl)
      simp only [Need.holds, mkCmp_den hf, goCmp] at this
      simpa [E.den, E.dn, Sc.toInt] using this
    · cases h
      refine ⟨rfl, _, shiftOp_run P w _ (Or.inr rfl) t k k' _ _ ?_ X Y, by show _ = _; rw [mkAr_den]⟩
      have := hn _ (List.mem_singleton.2 rfl)
      simp only [Need.holds, mkCmp_den hf, goCmp] at this
      simpa [E.den, E.dn, Sc.toInt] using this
    · split at h
      · rename_i hk
        subst hk
        have hrun := intOp_run P w op t k (x.den Φ ρ).toInt (y.den Φ ρ).toInt X Y
        split at h <;> first | (cases h; done) | skip
        all_goals cases h
        all_goals first
          | exact ⟨rfl, _, hrun, by show _ = _; rw [mkAr_den]⟩
          | exact ⟨rfl, _, hrun, by show _ = _; rw [mkCmp_den hf]⟩
          | (refine ⟨rfl, _, hrun ?_, by show _ = _; rw [mkAr_den]⟩
             have := hn _ (List.mem_singleton.2 rfl)
             simp only [Need.holds, mkCmp_den hf, goCmp] at this
             simpa [E.den, E.dn, Sc.toInt] using this)
      · cases h
  · rename_i x y
    obtain rfl : u = .bool (x.den Φ ρ).toBool := hx
    obtain rfl : u' = .bool (y.den Φ ρ).toBool := hy
    split at h
    · rename_i hu
      split at h <;> first | (cases h; done) | skip
      · cases h
        refine ⟨rfl, .bool ((x.den Φ ρ).toBool == (y.den Φ ρ).toBool), ?_, by show _ = _; rw [mkEqb_den]⟩
        simp [eqGuard, run_eql_bool w t _ _ hu]
      · cases h
        refine ⟨rfl, .bool (!((x.den Φ ρ).toBool == (y.den Φ ρ).toBool)), ?_, by show _ = _; rw [mkNot_den, mkEqb_den]⟩
        simp [eqGuard, run_neq_bool w t _ _ hu]
    · cases h
  · rename_i x y
    obtain rfl : u = .string (x.den Φ ρ).toStr := hx
    obtain rfl : u' = .string (y.den Φ ρ).toStr := hy
    have heq : ((resolve fs (.eqs x y)).den Φ ρ).toBool = ((x.den Φ ρ).toStr.toList == (y.den Φ ρ).toStr.toList) := by rw [resolve_sound hf]; rfl
    have hlt : ((resolve fs (.slt x y)).den Φ ρ).toBool = Op.bytesLess (x.den Φ ρ).toStr.toList (y.den Φ ρ).toStr.toList := by rw [resolve_sound hf]; rfl
    split at h <;> first | (cases h; done) | skip
    · cases h
      exact ⟨rfl, .bool ((x.den Φ ρ).toStr.toList == (y.den Φ ρ).toStr.toList), by simp [eqGuard, binOp, Op.stringOp], by show _ = _; rw [heq]⟩
    · cases h
      exact ⟨rfl, .bool (!((x.den Φ ρ).toStr.toList == (y.den Φ ρ).toStr.toList)), by simp [eqGuard, binOp, Op.stringOp], by show _ = _; rw [mkNot_den, heq]⟩
    · cases h
      exact ⟨rfl, .bool (Op.bytesLess (x.den Φ ρ).toStr.toList (y.den Φ ρ).toStr.toList), by simp [eqGuard, binOp, Op.stringOp], by show _ = _; rw [hlt]⟩
    · cases h
      have hs := hn _ (List.mem_singleton.2 rfl)
      have hs' : ((((x.den Φ ρ).toStr.size + (y.den Φ ρ).toStr.size : Nat) : Int) ≤ IntKind.i64.max) := of_decide_eq_true hs
      refine ⟨rfl, .string ((x.den Φ ρ).toStr ++ (y.den Φ ρ).toStr), ?_, rfl⟩
      have hs2 : ¬ ((((x.den Φ ρ).toStr.size + (y.den Φ ρ).toStr.size : Nat) : Int) > IntKind.i64.max) := Int.not_lt.2 hs'
      simp [eqGuard, binOp, Op.stringOp]
      simpa using hs2
  · rename_i xs ys
    obtain ⟨us, rfl, hus⟩ := hx
    obtain ⟨us', rfl, hus'⟩ := hy
    split at h
    · cases h
    · rename_i hg
      split at h
      · rename_i ks ha hk
        have hrow : ∃ d, P.underlying t = some d ∧ d.isRow = true := by
          unfold aggP at ha
          cases hu : P.underlying t with
          | none => simp [hu] at ha
          | some d => exact ⟨d, rfl, by simpa [hu] using ha⟩
        obtain ⟨d, hu, hd⟩ := hrow
        have hg' : P.eqGuardType P.depth t = false := by simpa using hg
        split at h <;> first | (cases h; done) | skip
        · rename_i e he
          cases h
          refine ⟨rfl, .bool (e.den Φ ρ).toBool, ?_, rfl⟩
          rw [Sem.run_bind, run_eqGuard_agg w _ t X Y _ _ hg', Result.andThen_ok, run_eql_struct, agg_equal hk w us us' _ (eqCells_sound hf he hus hus') hu hd]
          rfl
        · rename_i e he
          cases h
          refine ⟨rfl, .bool (!(e.den Φ ρ).toBool), ?_, by show _ = _; rw [mkNot_den]⟩
          rw [Sem.run_bind, run_eqGuard_agg w _ t X Y _ _ hg', Result.andThen_ok, run_neq_struct, agg_equal hk w us us' _ (eqCells_sound hf he hus hus') hu hd]
          rfl
      · cases h
  · cases h
end
end Go.Sx
