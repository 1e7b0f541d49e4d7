/- A symbolic executor over the loaded program of a seat: equality of aggregates, built aggregates, loads and stores. -/
import Derived.Test.YtdfcphfoccgopaaSx4
namespace Go.Sx
open Go.RowKit (Below)
set_option linter.unusedVariables false
set_option linter.unusedSimpArgs false

/-! ### Equality of aggregates -/
def EqAt : List K → List Value → List Value → Bool → Prop
  | [], _, _, b => b = true
  | .int k :: ks, x :: xs, y :: ys, b => ∃ m n b', x = .int k m ∧ y = .int k n ∧ EqAt ks xs ys b' ∧ b = ((m == n) && b')
  | .bool :: ks, x :: xs, y :: ys, b => ∃ m n b', x = .bool m ∧ y = .bool n ∧ EqAt ks xs ys b' ∧ b = ((m == n) && b')
  | _, _, _, _ => False
theorem EqAt.split : ∀ {ks ks' : List K} {xs ys : List Value} {b : Bool}, EqAt (ks ++ ks') xs ys b → ∃ b1 b2, EqAt ks xs ys b1 ∧ EqAt ks' (xs.drop ks.length) (ys.drop ks.length) b2 ∧ b = (b1 && b2)
  | [], ks', xs, ys, b, h => ⟨true, b, rfl, by simpa using h, by simp⟩
  | .int k :: ks, ks', x :: xs, y :: ys, b, h => by
    obtain ⟨m, n, b', hx, hy, h, hb⟩ := h
    obtain ⟨b1, b2, h1, h2, hb'⟩ := EqAt.split h
    exact ⟨(m == n) && b1, b2, ⟨m, n, b1, hx, hy, h1, rfl⟩, by simpa using h2, by rw [hb, hb', Bool.and_assoc]⟩
  | .bool :: ks, ks', x :: xs, y :: ys, b, h => by
    obtain ⟨m, n, b', hx, hy, h, hb⟩ := h
    obtain ⟨b1, b2, h1, h2, hb'⟩ := EqAt.split h
    exact ⟨(m == n) && b1, b2, ⟨m, n, b1, hx, hy, h1, rfl⟩, by simpa using h2, by rw [hb, hb', Bool.and_assoc]⟩
  | .str :: _, _, _, _, _, h => by simp [EqAt] at h
  | .int _ :: _, _, [], _, _, h => by simp [EqAt] at h
  | .int _ :: _, _, _ :: _, [], _, h => by simp [EqAt] at h
  | .bool :: _, _, [], _, _, h => by simp [EqAt] at h
  | .bool :: _, _, _ :: _, [], _, h => by simp [EqAt] at h
theorem EqAt.take : ∀ {ks : List K} {xs ys : List Value} {b : Bool}, EqAt ks xs ys b → EqAt ks (xs.take ks.length) (ys.take ks.length) b ∧ ks.length ≤ xs.length ∧ ks.length ≤ ys.length
  | [], xs, ys, b, h => ⟨h, by simp, by simp⟩
  | .int k :: ks, x :: xs, y :: ys, b, h => by
    obtain ⟨m, n, b', hx, hy, h, hb⟩ := h
    obtain ⟨h1, h2, h3⟩ := EqAt.take h
    exact ⟨⟨m, n, b', hx, hy, h1, hb⟩, by simpa using h2, by simpa using h3⟩
  | .bool :: ks, x :: xs, y :: ys, b, h => by
    obtain ⟨m, n, b', hx, hy, h, hb⟩ := h
    obtain ⟨h1, h2, h3⟩ := EqAt.take h
    exact ⟨⟨m, n, b', hx, hy, h1, hb⟩, by simpa using h2, by simpa using h3⟩
  | .str :: _, _, _, _, h => by simp [EqAt] at h
  | .int _ :: _, [], _, _, h => by simp [EqAt] at h
  | .int _ :: _, _ :: _, [], _, h => by simp [EqAt] at h
  | .bool :: _, [], _, _, h => by simp [EqAt] at h
  | .bool :: _, _ :: _, [], _, h => by simp [EqAt] at h

section
variable {P : Program}
theorem part_plain {t : TypeId} (w : World) {d : TypeDesc} (hu : P.underlying t = some d) (hd : d.isRow = false) (xs : Array Value) (off : Nat) (x : Value) (hx : xs[off]? = some x) :
    (part t xs off).run P w = .ok x w := by
  have := aggP_sound (P := P) (t := t) (b := false) (by simp [aggP, hu, hd]) w
  simp [part, this, hx]
theorem part_agg {t : TypeId} (w : World) {d : TypeDesc} (hu : P.underlying t = some d) (hd : d.isRow = true) (xs : Array Value) (off n : Nat) (hs : sizeP P t = some n) :
    (part t xs off).run P w = .ok (.agg (xs.extract off (off + n))) w := by
  have := aggP_sound (P := P) (t := t) (b := true) (by simp [aggP, hu, hd]) w
  simp [part, this, sizeP_sound hs w]
theorem extract_toList (xs : Array Value) (off n : Nat) : (xs.extract off (off + n)).toList = (xs.toList.drop off).take n := by
  simp [Array.toList_extract, List.take_drop]

theorem eqFields_run {g : TypeId → Option (List K)} {D : Nat}
    (hg : ∀ t ks, g t = some ks → sizeP P t = some ks.length → ∀ (w : World) (xs ys : Array Value) (off : Nat) (b : Bool), EqAt ks (xs.toList.drop off) (ys.toList.drop off) b →
      ∃ u v, (part t xs off).run P w = .ok u w ∧ (part t ys off).run P w = .ok v w ∧ (Op.equalIn D t u v).run P w = .ok b w) (w : World) (xs ys : Array Value) :
    ∀ (fs : List Field) (off : Nat) (ks : List K) (b : Bool), kindsF P g off fs = some ks → EqAt ks (xs.toList.drop off) (ys.toList.drop off) b → (Op.eqFields D xs ys fs).run P w = .ok b w
  | [], off, ks, b, hk, h => by
    simp [kindsF] at hk; subst hk
    rw [show b = true from h]
    simp [Op.eqFields]
  | f :: fs, off, ks, b, hk, h => by
    simp only [kindsF] at hk
    split at hk
    · rename_i hn
      split at hk
      · rename_i ks1 hg1
        split at hk
        · rename_i hs
          cases hr : kindsF P g (off + ks1.length) fs with
          | none => simp [hr] at hk
          | some ks2 =>
            simp [hr] at hk
            subst hk
            obtain ⟨b1, b2, h1, h2, hb⟩ := h.split
            rw [List.drop_drop, List.drop_drop] at h2
            obtain ⟨u, v, hu, hv, he⟩ := hg _ _ hg1 hs w xs ys off b1 h1
            simp only [Op.eqFields, if_pos hn.1, hn.2, Sem.run_bind, hu, hv, he, Result.andThen_ok]
            cases b1
            · simp [hb]
            · simp only [Bool.not_true, Bool.false_eq_true, if_false]
              rw [eqFields_run hg w xs ys fs _ ks2 b2 hr h2]
              simp [hb]
        · cases hk
      · cases hk
    · cases hk
theorem eqItems_run {D : Nat} {e : TypeId} {ks : List K} (hs : P.cellsOf e = ks.length)
    (hg : ∀ (w : World) (xs ys : Array Value) (off : Nat) (b : Bool), EqAt ks (xs.toList.drop off) (ys.toList.drop off) b →
      ∃ u v, (part e xs off).run P w = .ok u w ∧ (part e ys off).run P w = .ok v w ∧ (Op.equalIn D e u v).run P w = .ok b w) (w : World) (xs ys : Array Value) :
    ∀ (n s : Nat) (b : Bool), EqAt (repK ks n) (xs.toList.drop (s * ks.length)) (ys.toList.drop (s * ks.length)) b → (Op.eqItems D e (P.cellsOf e) xs ys (List.range' s n)).run P w = .ok b w
  | 0, s, b, h => by
    rw [show b = true from h]
    simp [Op.eqItems]
  | n + 1, s, b, h => by
    obtain ⟨b1, b2, h1, h2, hb⟩ := EqAt.split (show EqAt (ks ++ repK ks n) _ _ b from h)
    rw [List.drop_drop, List.drop_drop, show s * ks.length + ks.length = (s + 1) * ks.length by rw [Nat.succ_mul]] at h2
    obtain ⟨u, v, hu, hv, he⟩ := hg w xs ys (s * ks.length) b1 h1
    rw [List.range'_succ]
    simp only [Op.eqItems, Sem.run_bind, hs, hu, hv, he, Result.andThen_ok]
    cases b1
    · simp [hb]
    · simp only [Bool.not_true, Bool.false_eq_true, if_false]
      rw [← hs, eqItems_run hs hg w xs ys n (s + 1) b2 h2]
      simp [hb]
theorem kinds_part : ∀ (d : Nat) (t : TypeId) (ks : List K), kindsP P d t = some ks → sizeP P t = some ks.length → ∀ (D : Nat), d ≤ D →
    ∀ (w : World) (xs ys : Array Value) (off : Nat) (b : Bool), EqAt ks (xs.toList.drop off) (ys.toList.drop off) b →
    ∃ u v, (part t xs off).run P w = .ok u w ∧ (part t ys off).run P w = .ok v w ∧ (Op.equalIn D t u v).run P w = .ok b w
  | 0, t, ks, h, _, _, _ => by simp [kindsP] at h
  | d + 1, t, ks, h, hs, 0, hD => by omega
  | d + 1, t, ks, h, hs, D + 1, hD => by
    intro w xs ys off b hE
    unfold kindsP at h
    cases hu : P.underlying t with
    | none => simp [hu] at h
    | some de =>
      simp only [hu] at h
      cases de <;> try (simp at h; done)
      case int k =>
        simp at h; subst h
        cases hx : xs.toList.drop off with
        | nil => rw [hx] at hE; simp [EqAt] at hE
        | cons x xs' =>
          cases hy : ys.toList.drop off with
          | nil => rw [hx, hy] at hE; simp [EqAt] at hE
          | cons y ys' =>
            rw [hx, hy] at hE
            obtain ⟨m, n, b', rfl, rfl, hb', hb⟩ := hE
            have h1 : xs[off]? = some (.int k m) := by have := congrArg (·[0]?) hx; simpa using this
            have h2 : ys[off]? = some (.int k n) := by have := congrArg (·[0]?) hy; simpa using this
            refine ⟨_, _, part_plain w hu rfl xs off _ h1, part_plain w hu rfl ys off _ h2, ?_⟩
            rw [run_equalIn_int w D t k k m n hu]
            rw [show b' = true from hb'] at hb
            rw [hb, Bool.and_true]
      case bool =>
        simp at h; subst h
        cases hx : xs.toList.drop off with
        | nil => rw [hx] at hE; simp [EqAt] at hE
        | cons x xs' =>
          cases hy : ys.toList.drop off with
          | nil => rw [hx, hy] at hE; simp [EqAt] at hE
          | cons y ys' =>
            rw [hx, hy] at hE
            obtain ⟨m, n, b', rfl, rfl, hb', hb⟩ := hE
            have h1 : xs[off]? = some (.bool m) := by have := congrArg (·[0]?) hx; simpa using this
            have h2 : ys[off]? = some (.bool n) := by have := congrArg (·[0]?) hy; simpa using this
            refine ⟨_, _, part_plain w hu rfl xs off _ h1, part_plain w hu rfl ys off _ h2, ?_⟩
            rw [run_equalIn_bool w D t m n hu]
            rw [show b' = true from hb'] at hb
            rw [hb, Bool.and_true]
      case struct fs =>
        simp only at h
        split at h
        · cases h
        · rename_i hst
          have hst' : P.stoodInHeld t = false := by simpa using hst
          obtain ⟨hE', _, _⟩ := hE.take
          refine ⟨_, _, part_agg w hu rfl xs off _ hs, part_agg w hu rfl ys off _ hs, ?_⟩
          have hf : P.fieldsOf t = fs := by simp [Program.fieldsOf, hu]
          rw [run_equalIn_struct w D t _ _ (by rw [hf]; exact hu) hst', hf]
          refine eqFields_run (g := kindsP P d) (fun t' ks' hk' hs' w' xs' ys' off' b' hE' => kinds_part d t' ks' hk' hs' D (by omega) w' xs' ys' off' b' hE') w _ _ fs.toList 0 ks b h ?_
          rw [List.drop_zero, List.drop_zero, extract_toList, extract_toList]
          exact hE'
      case array n e =>
        simp only at h
        cases hk : kindsP P d e with
        | none => simp [hk] at h
        | some ks1 =>
          simp only [hk] at h
          split at h
          · rename_i hse
            cases h
            obtain ⟨hE', _, _⟩ := hE.take
            refine ⟨_, _, part_agg w hu rfl xs off _ hs, part_agg w hu rfl ys off _ hs, ?_⟩
            have hie : ∃ i, P.info? e = some i ∧ i.size = ks1.length := by
              unfold sizeP at hse
              cases hi : P.info? e with
              | none => simp [hi] at hse
              | some i => exact ⟨i, rfl, by simpa [hi] using hse⟩
            obtain ⟨i, hi, hsz⟩ := hie
            rw [run_equalIn_array w D _ _ hu hi, List.range_eq_range']
            refine eqItems_run (by simp [Program.cellsOf, hi, hsz]) (fun w' xs' ys' off' b' hE' => kinds_part d e ks1 hk hse D (by omega) w' xs' ys' off' b' hE') w _ _ n 0 b ?_
            rw [Nat.zero_mul, List.drop_zero, List.drop_zero, extract_toList, extract_toList]
            exact hE'
          · cases h
/-- '==' of two aggregates. -/
theorem agg_equal {t : TypeId} {ks : List K} (h : kindsP P 50 t = some ks) (w : World) (xs ys : List Value) (b : Bool) (hE : EqAt ks xs ys b) {d : TypeDesc} (hu : P.underlying t = some d) (hd : d.isRow = true) :
    (Op.equalIn 10000 t (.agg xs.toArray) (.agg ys.toArray)).run P w = .ok b w := by
  unfold kindsP at h
  simp only [hu] at h
  cases d <;> try (simp [TypeDesc.isRow] at hd; done)
  case struct fs =>
    simp only at h
    split at h
    · cases h
    · rename_i hst
      have hst' : P.stoodInHeld t = false := by simpa using hst
      have hf : P.fieldsOf t = fs := by simp [Program.fieldsOf, hu]
      rw [run_equalIn_struct w 9999 t _ _ (by rw [hf]; exact hu) hst', hf]
      exact eqFields_run (g := kindsP P 49) (fun t' ks' hk' hs' w' xs' ys' off' b' hE' => kinds_part 49 t' ks' hk' hs' 9999 (by omega) w' xs' ys' off' b' hE') w _ _ fs.toList 0 ks b h (by simpa using hE)
  case array n e =>
    simp only at h
    cases hk : kindsP P 49 e with
    | none => simp [hk] at h
    | some ks1 =>
      simp only [hk] at h
      split at h
      · rename_i hse
        cases h
        have hie : ∃ i, P.info? e = some i ∧ i.size = ks1.length := by
          unfold sizeP at hse
          cases hi : P.info? e with
          | none => simp [hi] at hse
          | some i => exact ⟨i, rfl, by simpa [hi] using hse⟩
        obtain ⟨i, hi, hsz⟩ := hie
        rw [run_equalIn_array w 9999 _ _ hu hi, List.range_eq_range']
        exact eqItems_run (by simp [Program.cellsOf, hi, hsz]) (fun w' xs' ys' off' b' hE' => kinds_part 49 e ks1 hk hse 9999 (by omega) w' xs' ys' off' b' hE') w _ _ n 0 b (by simpa using hE)
      · cases h
end
section
variable {P : Program} {Φ : Ctx} {ρ : List Sc} {β : Bij}
theorem eqCells_sound {fs : Facts} (hf : FactsOk Φ ρ fs) : ∀ {ks : List K} {xs ys : List Cell} {e : E}, eqCells fs ks xs ys = some e → ∀ {us vs : List Value}, Rel2 (Cell.rel Φ ρ β) xs us → Rel2 (Cell.rel Φ ρ β) ys vs →
    EqAt ks us vs (e.den Φ ρ).toBool
  | [], [], [], e, h, us, vs, _, _ => by simp [eqCells] at h; subst h; rfl
  | .int k :: ks, .int k1 x :: xs, .int k2 y :: ys, e, h, u :: us, v :: vs, hx, hy => by
    simp only [eqCells] at h
    split at h
    · rename_i hk
      obtain ⟨rfl, rfl⟩ := hk
      cases hr : eqCells fs ks xs ys with
      | none => simp [hr] at h
      | some e' =>
        simp [hr] at h
        subst h
        exact ⟨_, _, _, hx.1, hy.1, eqCells_sound hf hr hx.2 hy.2, by rw [mkAnd_den, mkCmp_den hf]; rfl⟩
    · cases h
  | .bool :: ks, .bool x :: xs, .bool y :: ys, e, h, u :: us, v :: vs, hx, hy => by
    simp only [eqCells] at h
    cases hr : eqCells fs ks xs ys with
    | none => simp [hr] at h
    | some e' =>
      simp [hr] at h
      subst h
      exact ⟨_, _, _, hx.1, hy.1, eqCells_sound hf hr hx.2 hy.2, by rw [mkAnd_den, mkEqb_den]⟩
  | .int k :: ks, .int k1 x :: xs, .int k2 y :: ys, e, h, [], _, hx, _ => hx.elim
  | .int k :: ks, .int k1 x :: xs, .int k2 y :: ys, e, h, _ :: _, [], _, hy => hy.elim
  | .bool :: ks, .bool x :: xs, .bool y :: ys, e, h, [], _, hx, _ => hx.elim
  | .bool :: ks, .bool x :: xs, .bool y :: ys, e, h, _ :: _, [], _, hy => hy.elim
theorem kinds_isRow {t : TypeId} {ks : List K} (h : kindsP P 50 t = some ks) : ∃ d, P.underlying t = some d ∧ (d.isRow = true ∨ ∃ k, ks = [k]) := by
  unfold kindsP at h
  cases hu : P.underlying t with
  | none => simp [hu] at h
  | some d =>
    refine ⟨d, rfl, ?_⟩
    simp only [hu] at h
    cases d <;> first | (simp at h; done) | (left; rfl) | (right; simp at h; exact ⟨_, h.symm⟩)

/-! ### Loads and stores -/
theorem run_load_cell (w : World) (n o : Nat) (t : TypeId) (y : Value) (ha : aggP P t = some false) (hc : w.cell? ⟨n, o, none⟩ = some y) :
    (Instr.loadAt t (.pointer (some ⟨n, o, none⟩))).run P w = .ok y w := by
  simp [Instr.loadAt, Instr.sureAddr, loadVar, aggP_sound ha w, hc]
theorem run_load_row (w : World) (n o : Nat) (t : TypeId) (ys : List Value) (ha : aggP P t = some true) (hs : sizeP P t = some ys.length) (hc : w.rangeAt n o ys) :
    (Instr.loadAt t (.pointer (some ⟨n, o, none⟩))).run P w = .ok (.agg ys.toArray) w := by
  unfold aggP at ha
  cases hu : P.underlying t with
  | none => simp [hu] at ha
  | some d => exact run_loadAt_mid w n o t ys d hc hu (by simpa [hu] using ha) hs
theorem run_store_any (w : World) (n o : Nat) (t : TypeId) (y : Value) (hs : sizeP P t = some y.cells.size) (ht : w.there n o y.cells.size) (h1 : ∀ v ∈ y.cells.toList, v.oneCell' = true) :
    (Instr.storeAt t (.pointer (some ⟨n, o, none⟩)) y).run P w = .ok () (w.setCells n o y.cells.toList) := by
  have := run_storeCells_cells (P := P) n o y.cells.toList 0 w (fun j hj => by simpa using (ht j (by simpa using hj)).1) (fun j hj => by simpa using (ht j (by simpa using hj)).2) h1
  simp only [Nat.add_zero] at this
  simp [Instr.storeAt, Instr.sureAddr, storeVar, sizeP_sound hs w, this]
theorem Rel2.oneCell {cs : List Cell} {vs : List Value} (h : Rel2 (Cell.rel Φ ρ β) cs vs) (hk : cs.all Cell.known = true) : ∀ v ∈ vs, v.oneCell' = true := by
  intro v hv
  obtain ⟨i, hi, rfl⟩ := List.getElem_of_mem hv
  have hl := h.length
  have hc : cs[i]? = some cs[i] := List.getElem?_eq_getElem (by omega)
  obtain ⟨y, hy, hr⟩ := h.get hc
  rw [List.getElem?_eq_getElem hi] at hy
  cases hy
  exact Cell.rel.oneCell (List.all_eq_true.1 hk _ (List.getElem_mem _)) hr

/-! ### Aggregates that are built -/
theorem placesP_eq : ∀ fs : List Field, placesP P fs = fs.mapM (fun f => (P.info? f.type).map fun i => (f.offset, i.size))
  | [] => rfl
  | f :: fs => by
    simp only [placesP, List.mapM_cons, placesP_eq fs, sizeP]
    cases P.info? f.type with
    | none => rfl
    | some i =>
      cases fs.mapM (fun f => (P.info? f.type).map fun i => (f.offset, i.size)) with
      | none => rfl
      | some r => rfl
abbrev PartRel (Φ : Ctx) (ρ : List Sc) (β : Bij) (x : Nat × AV) (y : Nat × Value) : Prop := x.1 = y.1 ∧ x.2.rel Φ ρ β y.2 ∧ x.2.cells.all Cell.known = true
theorem builtA_sound {t : TypeId} {parts : List (Nat × AV)} {cs : List Cell} (h : builtA P t parts = some cs) {vals : List (Nat × Value)} (hp : Rel2 (PartRel Φ ρ β) parts vals) :
    ∃ vs : List Value, P.built t vals = some vs.toArray ∧ Rel2 (Cell.rel Φ ρ β) cs vs := by
  unfold builtA at h
  split at h
  · rename_i x n e z hu hz
    split at h
    · rename_i m hs
      obtain ⟨i, zv, hi, hiz, hzr, _⟩ := zeroCells_sound hz Φ ρ β
      obtain ⟨vr, h1, h2⟩ := fillA_sound hp hzr h
      unfold sizeP at hs
      cases hie : P.info? e with
      | none => simp [hie] at hs
      | some ie =>
        have : ie.size = m := by simpa [hie] using hs
        exact ⟨vr.toList, by simp only [Program.built, hi, hu, hiz, hie, this]; exact h1, h2⟩
    · cases h
  · rename_i x fields z hu hz
    split at h
    · rename_i pl hpl
      rw [placesP_eq] at hpl
      obtain ⟨i, zv, hi, hiz, hzr, _⟩ := zeroCells_sound hz Φ ρ β
      obtain ⟨vr, h1, h2⟩ := fillA_sound hp hzr h
      refine ⟨vr.toList, ?_, h2⟩
      simp only [Program.built, hi, hu, hiz, hpl]
      simpa using h1
    · cases h
  · cases h
theorem asAVs_sound : ∀ {xs : List TV} {vs : List AV}, asAVs xs = some vs → ∀ {us : List Value}, Rel2 (TV.rel Φ ρ β) xs us → Rel2 (AV.rel Φ ρ β) vs us ∧ vs.all (fun v => v.cells.all Cell.known) = true
  | [], vs, h, us, hr => by
    simp [asAVs] at h; subst h
    cases us with
    | nil => exact ⟨trivial, rfl⟩
    | cons _ _ => exact hr.elim
  | .av v :: r, vs, h, us, hr => by
    simp only [asAVs] at h
    split at h
    · rename_i hk
      cases hm : asAVs r with
      | none => simp [hm] at h
      | some vs' =>
        simp [hm] at h
        subst h
        cases us with
        | nil => exact hr.elim
        | cons u us =>
          obtain ⟨h1, h2⟩ := asAVs_sound hm hr.2
          exact ⟨⟨hr.1, h1⟩, by simp only [List.all_cons, hk, h2, Bool.and_self]⟩
    · cases h
  | .tup _ :: r, vs, h, us, hr => by simp [asAVs] at h
theorem parts_rel : ∀ {is : List Nat} {vs : List AV} {us : List Value}, is.length = us.length → Rel2 (AV.rel Φ ρ β) vs us → vs.all (fun v => v.cells.all Cell.known) = true → Rel2 (PartRel Φ ρ β) (is.zip vs) (is.zip us)
  | [], [], [], _, _, _ => trivial
  | i :: is, v :: vs, u :: us, hl, hr, hk => by
    simp only [List.all_cons, Bool.and_eq_true] at hk
    exact ⟨⟨rfl, hr.1, hk.1⟩, parts_rel (by simpa using hl) hr.2 hk.2⟩
  | [], _, _ :: _, hl, _, _ => by simp at hl
  | _ :: _, _, [], hl, _, _ => by simp at hl
  | _, [], _ :: _, _, hr, _ => hr.elim
  | _, _ :: _, [], _, hr, _ => hr.elim
theorem rep_length (z : List Cell) : ∀ n, (rep z n).length = n * z.length
  | 0 => by simp [rep]
  | n + 1 => by simp [rep, rep_length z n, Nat.succ_mul]; omega
theorem rep_get (z : List Cell) : ∀ (n j : Nat), j < n * z.length → (rep z n)[j]? = z[j % z.length]?
  | 0, j, h => by simp at h
  | n + 1, j, h => by
    rw [rep]
    by_cases hj : j < z.length
    · rw [List.getElem?_append_left hj, Nat.mod_eq_of_lt hj]
    · rw [List.getElem?_append_right (by omega), rep_get z n _ (by rw [Nat.succ_mul] at h; omega)]
      congr 1
      rw [Nat.mod_eq_sub_mod (by omega : j ≥ z.length)]
theorem rep_rel {z : List Cell} {zv : Array Value} (h : Rel2 (Cell.rel Φ ρ β) z zv.toList) (n : Nat) : Rel2 (Cell.rel Φ ρ β) (rep z n) ((Array.range (n * z.length)).map (zv[· % zv.size]!)).toList := by
  have hl := h.length
  simp only [Array.length_toList] at hl
  refine Rel2.of_get (by simp [rep_length]) fun j c hj => ?_
  have hlt : j < n * z.length := by have := (List.getElem?_eq_some_iff.1 hj).1; rwa [rep_length] at this
  rw [rep_get z n j hlt] at hj
  obtain ⟨y, hy, hr⟩ := h.get hj
  refine ⟨y, ?_, hr⟩
  have hz : j % z.length < zv.size := by
    rw [← hl]; exact Nat.mod_lt _ (by cases hz : z.length with | zero => simp [hz] at hlt | succ m => omega)
  simp only [Array.getElem?_toList] at hy ⊢
  rw [Array.getElem?_map, Array.getElem?_range, if_pos hlt]
  simp only [Option.map_some]
  rw [← hl, getElem!_pos zv _ hz]
  rw [Array.getElem?_eq_getElem hz] at hy
  exact hy
end
end Go.Sx
