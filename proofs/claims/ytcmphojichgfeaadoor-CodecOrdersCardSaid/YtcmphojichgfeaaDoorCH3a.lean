/- The codec seat: write, walked by hand. -/
import Derived.Test.YtcmphojichgfeaaDoorCDR
import Derived.Test.YtcmphojichgfeaaDoorCB1
namespace Go.Proofs.YtcmphojichgfeaaDoor.QC
open Go.RowKit Go.Proofs.YtcmphojichgfeaaDoorW.PrintWords Go.Proofs.YtcmphojichgfeaaDoorW.PrintLast Go.Proofs.YtcmphojichgfeaaDoorW.PrintMore
set_option linter.unusedVariables false
set_option linter.unusedSimpArgs false
attribute [local go_sem] max2_int min2_int max_two min_two
/-- Blocks of another type stay as they are. -/
def KeptT (w w' : World) : Prop := w.heap.size ≤ w'.heap.size ∧ ∀ (g : Nat) (cs : Array Value) (t : TypeId), w.heap[g]? = some (.cells cs t (0, 0)) → t ≠ 5 → w'.heap[g]? = some (.cells cs t (0, 0))
theorem KeptT.refl (w : World) : KeptT w w := ⟨Nat.le_refl _, fun _ _ _ h _ => h⟩
theorem KeptT.trans {w w1 w2 : World} (h : KeptT w w1) (k : KeptT w1 w2) : KeptT w w2 := ⟨Nat.le_trans h.1 k.1, fun g cs t hg ht => k.2 g cs t (h.2 g cs t hg ht) ht⟩
theorem KeptT.of_below {w w1 : World} (h : Below w.heap.size w w1) : KeptT w w1 := ⟨h.size, fun _ _ _ hg _ => blk_below hg h⟩
theorem KeptT.of_grown {w w1 : World} {base : Nat} {ok : Nat → Prop} {v : Value} {l : List Int} (h : Kd.R (Kd.int .u8) 5 w base ok v l) (hg : w.grownBy w1 v.ownBlock) : KeptT w w1 :=
  ⟨hg.size, fun g cs t hb ht => blk_grown hb hg (Kd.R_ne h hb (Ne.symm ht))⟩
theorem KeptT.of_kept {w w1 : World} {base : Nat} {ok : Nat → Prop} {v : Value} {l : List Int} (h : Kd.R (Kd.int .u8) 5 w base ok v l) (hk : Kept w w1 (fun k => some k = v.ownBlock)) : KeptT w w1 :=
  ⟨hk.1, fun g cs t hb ht => (hk.2 g (blk_lt hb) (Kd.R_ne h hb (Ne.symm ht))).trans hb⟩
theorem R_self {w : World} {base : Nat} {ok : Nat → Prop} {v : Value} {l : List Int} (h : Kd.R (Kd.int .u8) 5 w base ok v l) : Kd.R (Kd.int .u8) 5 w base (fun k => some k = v.ownBlock) v l := Kd.R_of_own (Kd.own_of_R h) (fun k hk => hk.symm)
/-! ### Counts -/
set_option maxRecDepth 100000 in
theorem or128 : ∀ n : Nat, n < 256 → Go.bits .or .u8 ((n : Int)) 128 = ((n % 128 + 128 : Nat) : Int) := by
  intro n hn
  have h : ∀ m : Fin 256, Go.bits .or .u8 ((m.val : Int)) 128 = ((m.val % 128 + 128 : Nat) : Int) := by decide
  exact h ⟨n, hn⟩
theorem countF : ∀ (k n : Nat) (l0 : List Int), n < 2 ^ (7 * k) → 0 < k → l0.length + k ≤ 140737488355328 → codec_count.f k l0 (n : Int) = some (l0 ++ cnt n)
  | 0, _, _, _, hk, _ => absurd hk (by omega)
  | k + 1, n, l0, hn, _, hl => by
    show codec_count.l0 (k + 1) l0 (n : Int) = _
    rw [codec_count.l0]
    by_cases h : n < 128
    · rw [if_neg (by omega), if_pos (by omega), cnt, dif_pos h]
      rw [show ((n : Int)) % 256 = (n : Int) by omega]
    · rw [if_pos (by omega), if_pos (by omega), cnt, dif_neg h]
      have e1 : ((n : Int)) % 256 = ((n % 256 : Nat) : Int) := by omega
      have e2 : ((n : Int)) / 128 = ((n / 128 : Nat) : Int) := by omega
      rw [e1, or128 _ (Nat.mod_lt _ (by omega)), e2]
      have hk : 0 < k := by
        apply Nat.pos_of_ne_zero
        rintro rfl
        simp at hn
        omega
      have hn2 : n / 128 < 2 ^ (7 * k) := by
        rw [show 7 * (k + 1) = 7 * k + 7 by omega, Nat.pow_add] at hn
        exact Nat.div_lt_of_lt_mul (by rw [Nat.mul_comm]; exact hn)
      have ih := countF k (n / 128) (l0 ++ [((n % 256 % 128 + 128 : Nat) : Int)]) hn2 hk (by simp; omega)
      show codec_count.f k _ _ = _
      rw [ih, List.append_assoc]
      rw [show n % 256 % 128 = n % 128 by omega]
      rfl
theorem cntC (n : Nat) (hn : n ≤ 18446744073709551615) (u : Value) (l0 : List Int) (w0 w : World) (hB : Below w0.heap.size w0 w) (hR : Kd.R (Kd.int .u8) 5 w w0.heap.size (fun _ => True) u l0) (hl : l0.length + 10 ≤ 140737488355328) :
    Calls Tryd.prog 50 #[u, .int .u64 n] w fun e w' => ∃ v0 : Value, e = .returned v0 ∧ Kd.R (Kd.int .u8) 5 w' w0.heap.size (fun _ => True) v0 (l0 ++ cnt n) ∧ Below w0.heap.size w0 w' ∧ KeptT w w' := by
  refine (codec_count.calls 10 (fun k => some k = u.ownBlock) u l0 (n : Int) _ w0 w hB (R_self hR) (countF 10 n l0 (Nat.lt_of_le_of_lt hn (by decide)) (by omega) hl)).mono ?_
  rintro e w' ⟨v0, rfl, h1, h2, h3⟩
  exact ⟨v0, rfl, Kd.R_mono h1 (fun _ _ => trivial), h2, KeptT.of_kept hR h3⟩
/-! ### A region that appends, in whatever order -/
structure JO (X : Nat → Option Value) (D : List (Nat × Nat)) (kb ka : Nat) (bv : Value) (cv : (Nat → Bool) → (Nat → Value) → Value) (cl : (Nat → Bool) → List Int) (w0 wr : World) (ls : Nat → Bool) (vals : Nat → Value) (w : World) : Prop where
  below : Below w0.heap.size w0 w
  kept : KeptT wr w
  val : ∀ k v, X k = some v → ls k = true → vals k = v
  box : ls kb = true → ls ka = false → ∃ g, vals kb = .slice (some ⟨g, 0, none⟩) 1 1 ∧ w.heap[g]? = some (.cells #[bv] 5 (0, 0))
  own : Kd.R (Kd.int .u8) 5 w w0.heap.size (fun _ => True) (cv ls vals) (cl ls)
  dc : ∀ i j, (i, j) ∈ D → ls i = true → ls j = true
section
variable {X : Nat → Option Value} {D : List (Nat × Nat)} {kb ka : Nat} {bv : Value} {cv : (Nat → Bool) → (Nat → Value) → Value} {cl : (Nat → Bool) → List Int} {w0 wr w w' : World} {ls : Nat → Bool} {vals : Nat → Value}
theorem JO.step (h : JO X D kb ka bv cv cl w0 wr ls vals w) {i : Nat} {v : Value} (hD : ∀ j, (i, j) ∈ D → ls j = true) (hB : Below w0.heap.size w0 w') (hk : KeptT w w') (hv : ∀ u, X i = some u → v = u)
    (hbox : (i = kb ∧ ∃ g, v = .slice (some ⟨g, 0, none⟩) 1 1 ∧ w'.heap[g]? = some (.cells #[bv] 5 (0, 0))) ∨ (i ≠ kb ∧ (i = ka ∨ ls ka = true ∨ Below w.heap.size w w')))
    (hown : Kd.R (Kd.int .u8) 5 w' w0.heap.size (fun _ => True) (cv (DR.upd ls i true) (DR.upd vals i v)) (cl (DR.upd ls i true))) : JO X D kb ka bv cv cl w0 wr (DR.upd ls i true) (DR.upd vals i v) w' := by
  refine ⟨hB, h.kept.trans hk, fun k u hku hl => ?_, fun hb hna => ?_, hown, fun i' j hm hl => ?_⟩
  · by_cases hki : k = i
    · subst hki
      rw [DR.upd_eq]
      exact hv u hku
    · rw [DR.upd_ne _ _ hki] at hl ⊢
      exact h.val k u hku hl
  · rcases hbox with ⟨rfl, g, h1, h2⟩ | ⟨hne, hc⟩
    · exact ⟨g, by rw [DR.upd_eq]; exact h1, h2⟩
    · rw [DR.upd_ne _ _ (Ne.symm hne)] at hb ⊢
      by_cases hia : i = ka
      · subst hia
        rw [DR.upd_eq] at hna
        cases hna
      · rw [DR.upd_ne _ _ (Ne.symm hia)] at hna
        obtain ⟨g, h1, h2⟩ := h.box hb hna
        rcases hc with hc | hc | hc
        · exact absurd hc hia
        · rw [hc] at hna; cases hna
        · exact ⟨g, h1, blk_below h2 hc⟩
  · by_cases hij : j = i
    · rw [hij, DR.upd_eq]
    · rw [DR.upd_ne _ _ hij]
      by_cases hi' : i' = i
      · subst hi'
        exact hD j hm
      · rw [DR.upd_ne _ _ hi'] at hl
        exact h.dc i' j hm hl
/-- A value, in a world that has only grown. -/
theorem JO.value (h : JO X D kb ka bv cv cl w0 wr ls vals w) {i : Nat} {v : Value} (hX : X i = some v) (hD : ∀ j, (i, j) ∈ D → ls j = true) (hi : i ≠ kb) (hcv : cv (DR.upd ls i true) (DR.upd vals i v) = cv ls vals) (hcl : cl (DR.upd ls i true) = cl ls) (hb : Below w.heap.size w w') (hs : w0.heap.size ≤ w.heap.size) :
    JO X D kb ka bv cv cl w0 wr (DR.upd ls i true) (DR.upd vals i v) w' := by
  refine h.step hD (below_then h.below hs hb) (KeptT.of_below hb) (fun u hu => by rw [hX] at hu; cases hu; rfl) (.inr ⟨hi, .inr (.inr hb)⟩) ?_
  rw [hcv, hcl]
  exact Kd.R_below h.own hb
end
/-- append of one byte that lies in a box. -/
theorem append1_step {P : Program} {ops : Array Oper} {Q : Exit → Act → World → Prop} {i : Nat} {o : Oper} {a : Act} {W w0 : World} {K : Act → World → Prop} (hoi : ops[i]? = some o) (hg : o.guard = none) (s x : Operand) (t : TypeId) (ho : o.op = .call { callee := .builtin .append, args := #[s, x], argTypes := #[t, t] })
    (ht : P.underlying t = some (.slice 5)) (hinfo : (P.info? 5).map (fun i => (i.zero, i.size, i.bytes)) = some (some (.int .u8 0), 1, 1)) (v : Value) (l : List Int) (b : Int) (g : Nat) (hs : a.eval s = v) (hx : a.eval x = .slice (some ⟨g, 0, none⟩) 1 1)
    (hR : Kd.R (Kd.int .u8) 5 W w0.heap.size (fun _ => True) v l) (hbx : W.heap[g]? = some (.cells #[.int .u8 b] 5 (0, 0))) (hB : Below w0.heap.size w0 W) (hl : l.length + 1 ≤ 140737488355328)
    (h : ∀ v1 w1, Kd.R (Kd.int .u8) 5 w1 w0.heap.size (fun _ => True) v1 (l ++ [b]) → Below w0.heap.size w0 w1 → KeptT W w1 → K (a.put o.dst v1) w1) : wpOp P ops Q i K a W := by
  have hw : Region.wanted o (yielded ops a.tmps) = true := by unfold Region.wanted; rw [hg]
  have hst := Kd.R_append_rows_step (P := P) (ops := ops) (o := o) (a := a) (Q := Q) (Kc := K) (w0 := w0) (W := W) (Kd.int .u8) (Rr := fun x c => c = [.int .u8 x]) w0.heap.size hw s x t 5 (.int .u8 0) 1 ho ht hinfo rfl (by decide) (by decide) v l [b] (some ⟨g, 0, none⟩) 1 1 (fun _ => True) (fun _ => False) hs hx hR
    ⟨rfl, by omega, fun _ => ⟨⟨g, 0, none⟩, rfl, fun j p hj => ⟨[.int .u8 p], rfl, rfl, fun i u hi => by
      cases i with
      | succ i => simp at hi
      | zero =>
        simp only [List.getElem?_cons_zero, Option.some.injEq] at hi
        subst hi
        cases j with
        | succ j => simp at hj
        | zero =>
          simp at hj
          subst hj
          exact (blk_cell hbx 0).trans rfl⟩⟩⟩ (fun x cs h => by subst h; rfl) (fun _ hk => hk.elim) (fun _ _ => trivial) hB (below_size hB) (by simpa using hl)
    (fun v1 w1 h1 h2 h3 _ => h v1 w1 h1 h2 (KeptT.of_grown hR h3))
  rw [if_pos hw] at hst
  unfold wpOp
  rw [hoi]
  simp only [hw, if_true]
  exact .inl hst
/-- append of a string's bytes. -/
theorem appendS_step {P : Program} {ops : Array Oper} {Q : Exit → Act → World → Prop} {i : Nat} {o : Oper} {a : Act} {W w0 : World} {K : Act → World → Prop} (hoi : ops[i]? = some o) (hg : o.guard = none) (s x : Operand) (t t' : TypeId) (ho : o.op = .call { callee := .builtin .append, args := #[s, x], argTypes := #[t, t'] })
    (ht : P.underlying t = some (.slice 5)) (ht' : P.underlying t' = some .string) (hinfo : (P.info? 5).map (fun i => (i.zero, i.size, i.bytes)) = some (some (.int .u8 0), 1, 1)) (v : Value) (l : List Int) (y : ByteArray) (hs : a.eval s = v) (hx : a.eval x = .string y)
    (hR : Kd.R (Kd.int .u8) 5 W w0.heap.size (fun _ => True) v l) (hB : Below w0.heap.size w0 W) (hl : l.length + y.size ≤ 140737488355328)
    (h : ∀ v1 w1, Kd.R (Kd.int .u8) 5 w1 w0.heap.size (fun _ => True) v1 (l ++ ints y) → Below w0.heap.size w0 w1 → KeptT W w1 → K (a.put o.dst v1) w1) : wpOp P ops Q i K a W := by
  obtain ⟨i0, hi, hzz⟩ := Option.map_eq_some_iff.1 hinfo
  simp only [Prod.mk.injEq] at hzz
  obtain ⟨hz0, hz1, hz2⟩ := hzz
  obtain ⟨v', w', hr, h2, h3, _⟩ := Lib.run_append_own_string (P := P) W w0.heap.size t t' o.type 5 i0 ht ht' hi hz0 hz1 hz2 v l.length _ (Kd.own_of_R hR) y (by simp only [maxLen]; omega) hl (below_size hB)
  have hrun : (execOp a.eval o).run P W = .ok (.value v') w' := by
    unfold execOp
    simp only [ho, resolve, invoke, builtin, Sem.run_bind, Sem.run_pure, Result.andThen_ok, List.map_toArray, List.map_cons, List.map_nil, hs, hx, hr]
  refine DR.wpOp_run hoi hg hrun (h v' w' ?_ (pw_below_grown hB v.ownBlock (below_size hB) h3 (Kd.R_base hR)) (KeptT.of_grown hR h3))
  refine Kd.R_of_own ?_ (fun _ _ => trivial)
  have e1 : (l ++ ints y).length = l.length + y.size := by simp [ints]
  rw [e1]
  have e2 : Lib.strCells y = encs (fun x : Int => Value.int .u8 x) (ints y) := by simp [Lib.strCells, encs, ints]
  rw [e2, ← encs_append] at h2
  exact h2
end Go.Proofs.YtcmphojichgfeaaDoor.QC
