/- A symbolic executor over the loaded program of a seat: that one operation does what the executor says. -/
import Derived.Test.YtdfcphfoccgopaaSx3
namespace Go.Sx
open Go.RowKit (Below)
set_option linter.unusedVariables false
set_option linter.unusedSimpArgs false

theorem wp_val {P : Program} {o : Oper} {a : Act} {w w' : World} {y : Value} {K : Act → World → Prop} {Q : Exit → Act → World → Prop}
    (h : (execOp a.eval o).run P w = .ok (.value y) w') (hk : K (a.put o.dst y) w') : o.wp P a w K Q := by
  unfold Oper.wp
  rw [h]
  exact hk
theorem wp_skip' {P : Program} {o : Oper} {a : Act} {w w' : World} {K : Act → World → Prop} {Q : Exit → Act → World → Prop}
    (h : (execOp a.eval o).run P w = .ok .skip w') (hk : K (a.put o.dst undef) w') : o.wp P a w K Q := by
  unfold Oper.wp
  rw [h]
  exact hk

section
variable {Φ : Ctx} {ρ : List Sc} {β : Bij}
/-! ### The types' rows -/
theorem zeroCells_sound {P : Program} {t : TypeId} {z : List Cell} (h : zeroCells P t = some z) (Φ : Ctx) (ρ : List Sc) (β : Bij) :
    ∃ i zv, P.info? t = some i ∧ i.zero = some zv ∧ Rel2 (Cell.rel Φ ρ β) z zv.cells.toList ∧ z.all Cell.known = true := by
  unfold zeroCells at h
  cases hi : P.info? t with
  | none => simp [hi] at h
  | some i =>
    cases hz : i.zero with
    | none => simp [hi, hz] at h
    | some zv =>
      simp only [hi, hz, Option.bind_some] at h
      split at h
      · rename_i cs heq
        cases heq
        have := mapM_const Φ ρ β h
        exact ⟨i, _, rfl, hz, by simpa [Value.cells] using this.1, this.2⟩
      · rename_i x v hne heq
        cases heq
        cases hc : constCell zv with
        | none => simp [hc] at h
        | some c =>
          simp [hc] at h
          subst h
          have := constCell_sound (Φ := Φ) (ρ := ρ) (β := β) hc
          refine ⟨i, _, rfl, hz, ?_, by simp [this.2]⟩
          rw [Cell.rel.cells this.2 this.1]
          exact ⟨this.1, trivial⟩
      · rename_i heq; cases heq
theorem sizeP_sound {P : Program} {t : TypeId} {n : Nat} (h : sizeP P t = some n) (w : World) : (sizeOf t).run P w = .ok n w := by
  unfold sizeP at h
  cases hi : P.info? t with
  | none => simp [hi] at h
  | some i => simp [hi] at h; simp [sizeOf, typeInfo, hi, h]
theorem aggP_sound {P : Program} {t : TypeId} {b : Bool} (h : aggP P t = some b) (w : World) : (isAgg t).run P w = .ok b w := by
  unfold aggP at h
  cases hu : P.underlying t with
  | none => simp [hu] at h
  | some d =>
    simp [hu] at h
    subst h
    unfold isAgg
    rw [Sem.run_bind, run_underlying hu w]
    cases d <;> rfl
theorem Addr_add (n o k : Nat) : (⟨n, o, none⟩ : Addr).add k = ⟨n, o + k, none⟩ := Addr.add_mid n o k

/-! ### Aggregates -/
theorem setCellsA_length : ∀ (cs : List Cell) (o : Nat) (r : List Cell), (setCellsA cs o r).length = cs.length
  | _, _, [] => rfl
  | cs, o, c :: r => by rw [setCellsA, setCellsA_length]; simp
theorem setCellsA_get : ∀ (r : List Cell) (cs : List Cell) (o j : Nat), o + r.length ≤ cs.length → (setCellsA cs o r)[j]? = if o ≤ j ∧ j < o + r.length then r[j - o]? else cs[j]?
  | [], cs, o, j, _ => by rw [if_neg (by simp)]; rfl
  | c :: r, cs, o, j, h => by
    simp only [List.length_cons] at h ⊢
    rw [setCellsA, setCellsA_get r _ _ _ (by simp; omega)]
    by_cases h1 : o + 1 ≤ j ∧ j < o + 1 + r.length
    · rw [if_pos h1, if_pos (by omega), show j - o = (j - (o + 1)) + 1 by omega]
      simp
    · rw [if_neg h1]
      by_cases e : o = j
      · subst e
        rw [if_pos (by omega)]
        have : o < cs.length := by omega
        simp [this]
      · rw [if_neg (by omega)]
        simp [List.getElem?_set, e]
theorem foldl_fill : ∀ (r : List Value) (cs : Array Value) (o j i : Nat), ((r.zipIdx i).foldl (fun (cs : Array Value) (x : Value × Nat) => cs.setIfInBounds (o + x.2) x.1) cs)[j]? = if o + i ≤ j ∧ j < o + i + r.length ∧ j < cs.size then r[j - (o + i)]? else cs[j]?
  | [], cs, o, j, i => by rw [if_neg (by simp; omega)]; rfl
  | v :: r, cs, o, j, i => by
    simp only [List.length_cons]
    rw [List.zipIdx_cons, List.foldl_cons, foldl_fill r]
    simp only [Array.size_setIfInBounds]
    by_cases h1 : o + (i + 1) ≤ j ∧ j < o + (i + 1) + r.length ∧ j < cs.size
    · rw [if_pos h1, if_pos (by omega), show j - (o + i) = (j - (o + (i + 1))) + 1 by omega]
      simp
    · rw [if_neg h1]
      by_cases e : o + i = j
      · by_cases hlt : j < cs.size
        · rw [if_pos (by omega)]
          simp [e, hlt]
        · rw [if_neg (by omega)]
          simp [e, hlt]
      · rw [if_neg (by omega)]
        simp [Array.getElem?_setIfInBounds, e]
theorem foldl_fill_size (o : Nat) : ∀ (l : List (Value × Nat)) (cs : Array Value), (l.foldl (fun (cs : Array Value) (x : Value × Nat) => cs.setIfInBounds (o + x.2) x.1) cs).size = cs.size
  | [], _ => rfl
  | x :: l, cs => by rw [List.foldl_cons, foldl_fill_size o l]; simp
theorem fillA_sound {place : Nat → Option (Nat × Nat)} : ∀ {parts : List (Nat × AV)} {vals : List (Nat × Value)} {cells r : List Cell} {vcells : Array Value},
    Rel2 (fun (x : Nat × AV) (y : Nat × Value) => x.1 = y.1 ∧ x.2.rel Φ ρ β y.2 ∧ x.2.cells.all Cell.known = true) parts vals → Rel2 (Cell.rel Φ ρ β) cells vcells.toList → fillA place cells parts = some r →
    ∃ vr : Array Value, Instr.fill place vcells vals = some vr ∧ Rel2 (Cell.rel Φ ρ β) r vr.toList
  | [], [], cells, r, vcells, _, hc, h => by
    simp [fillA] at h; subst h
    exact ⟨vcells, rfl, hc⟩
  | (i, x) :: parts, (i', v) :: vals, cells, r, vcells, hp, hc, h => by
    obtain ⟨⟨hi, hx, hk⟩, hp⟩ := hp
    simp only at hi hx hk
    subst hi
    simp only [fillA] at h
    cases hpl : place i with
    | none => simp [hpl] at h
    | some os =>
      obtain ⟨off, size⟩ := os
      simp only [hpl] at h
      have hcells := AV.rel.cells hk hx
      have hl := hcells.length
      have hlen := hc.length
      simp only [Array.length_toList] at hl hlen
      split at h
      · cases h
      · rename_i hn
        have hn' : ¬ (v.cells.size ≠ size ∨ off + v.cells.size > vcells.size) := by rw [← hl, ← hlen]; simpa using hn
        have hrel : Rel2 (Cell.rel Φ ρ β) (setCellsA cells off x.cells) (v.cells.zipIdx.foldl (fun (cs : Array Value) (x : Value × Nat) => cs.setIfInBounds (off + x.2) x.1) vcells).toList := by
          have hzz : v.cells.zipIdx.foldl (fun (cs : Array Value) (x : Value × Nat) => cs.setIfInBounds (off + x.2) x.1) vcells = (v.cells.toList.zipIdx 0).foldl (fun (cs : Array Value) (x : Value × Nat) => cs.setIfInBounds (off + x.2) x.1) vcells := by
            rw [← Array.foldl_toList, Array.toList_zipIdx]
          rw [hzz]
          refine Rel2.of_get (by rw [setCellsA_length]; show _ = Array.size _; rw [foldl_fill_size, hlen]) fun j c hj => ?_
          rw [setCellsA_get _ _ _ _ (by omega)] at hj
          rw [Array.getElem?_toList, foldl_fill]
          by_cases hin : off ≤ j ∧ j < off + x.cells.length
          · rw [if_pos hin] at hj
            obtain ⟨y, hy, hr⟩ := hcells.get hj
            refine ⟨y, ?_, hr⟩
            rw [if_pos (by simp only [Array.length_toList]; omega)]
            exact hy
          · rw [if_neg hin] at hj
            obtain ⟨y, hy, hr⟩ := hc.get hj
            refine ⟨y, ?_, hr⟩
            rw [if_neg (by simp only [Array.length_toList]; omega)]
            simpa using hy
        obtain ⟨vr, h1, h2⟩ := fillA_sound hp hrel h
        exact ⟨vr, by simp only [Instr.fill, hpl]; rw [if_neg (by simpa using hn')]; exact h1, h2⟩
  | [], _ :: _, _, _, _, hp, _, _ => hp.elim
  | _ :: _, [], _, _, _, hp, _, _ => hp.elim
end
end Go.Sx
