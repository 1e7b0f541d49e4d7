/- A region that draws its order: any order, by an invariant over what is listed and what was put. -/
import Derived.Test.YtcmphojichgfeaaDoorCL0
namespace Go.DR
open Go.RowKit
set_option linter.unusedVariables false
set_option linter.unusedSimpArgs false
def edgesOk : Nat → List Oper → Bool
  | _, [] => true
  | i, o :: os => o.after.toList.all (fun e => !Region.binds .any e || decide (e.on < i)) && edgesOk (i + 1) os
theorem edgesOk_spec : ∀ {L : List Oper} {s : Nat}, edgesOk s L = true → ∀ j o, L[j]? = some o → ∀ e ∈ o.after.toList, Region.binds .any e = true → e.on < s + j
  | [], _, _, _, _, h => by simp at h
  | o :: L, s, h, 0, o', ho => by
    simp at ho
    subst ho
    simp only [edgesOk, Bool.and_eq_true] at h
    intro e he hb
    have := List.all_eq_true.1 h.1 e he
    rw [hb] at this
    simpa using this
  | o :: L, s, h, j + 1, o', ho => by
    simp only [edgesOk, Bool.and_eq_true] at h
    intro e he hb
    have := edgesOk_spec h.2 j o' (by simpa using ho) e he hb
    omega
def upd {α : Type} (f : Nat → α) (i : Nat) (v : α) : Nat → α := fun k => if k = i then v else f k
theorem upd_eq {α : Type} (f : Nat → α) (i : Nat) (v : α) : upd f i v i = v := if_pos rfl
theorem upd_ne {α : Type} (f : Nat → α) {i k : Nat} (v : α) (h : k ≠ i) : upd f i v k = f k := if_neg h
def putAll : List (Option Nat) → Nat → (Nat → Value) → Act → Act
  | [], _, _, a => a
  | d :: ds, i, vals, a => putAll ds (i + 1) vals (a.put d (vals i))
/-- The slots: what is listed has its value, the others are as they were. -/
structure Slots (ds : List (Option Nat)) (a0 : Act) (ls : Nat → Bool) (vals : Nat → Value) (a : Act) : Prop where
  df : a.defers = a0.defers
  sz : a.tmps.size = a0.tmps.size
  out : ∀ t, (∀ k, ds[k]? = some (some t) → ls k = false) → a.eval (.tmp t) = a0.eval (.tmp t)
  on : ∀ k t, ds[k]? = some (some t) → ls k = true → a.eval (.tmp t) = vals k
theorem eval_get (a : Act) (t : Nat) : a.tmps[t]?.getD undef = a.eval (.tmp t) := by simp [Act.eval, Array.getD_eq_getD_getElem?]
theorem eval_put_ne {a : Act} {d t : Nat} {v : Value} (h : t ≠ d) : (a.put (some d) v).eval (.tmp t) = a.eval (.tmp t) := by
  simp only [Act.put, Act.eval, Array.getD_eq_getD_getElem?]
  rw [Array.getElem?_setIfInBounds_ne (Ne.symm h)]
theorem eval_put_eq {a : Act} {d : Nat} {v : Value} (h : d < a.tmps.size) : (a.put (some d) v).eval (.tmp d) = v := by
  simp [Act.put, Act.eval, Array.getD_eq_getD_getElem?, h]
/-- Each slot is written by one operation, and lies in the frame. -/
def oneB (n : Nat) (ds : List (Option Nat)) : Bool :=
  (List.range ds.length).all fun i => match ds[i]? with
    | some (some t) => decide (t < n) && (List.range ds.length).all fun j => i == j || !(ds[j]? == some (some t))
    | _ => true
theorem oneB_lt {n : Nat} {ds : List (Option Nat)} (h : oneB n ds = true) {i t : Nat} (hi : ds[i]? = some (some t)) : t < n := by
  have hl : i < ds.length := (List.getElem?_eq_some_iff.1 hi).1
  have := List.all_eq_true.1 h i (List.mem_range.2 hl)
  rw [hi] at this
  simp only [Bool.and_eq_true, decide_eq_true_eq] at this
  exact this.1
theorem oneB_inj {n : Nat} {ds : List (Option Nat)} (h : oneB n ds = true) {i j t : Nat} (hi : ds[i]? = some (some t)) (hj : ds[j]? = some (some t)) : i = j := by
  have hl : i < ds.length := (List.getElem?_eq_some_iff.1 hi).1
  have hl' : j < ds.length := (List.getElem?_eq_some_iff.1 hj).1
  have := List.all_eq_true.1 h i (List.mem_range.2 hl)
  rw [hi] at this
  simp only [Bool.and_eq_true, decide_eq_true_eq] at this
  have := List.all_eq_true.1 this.2 j (List.mem_range.2 hl')
  rw [hj] at this
  simpa using this
theorem Slots.put {ds : List (Option Nat)} {a0 a : Act} {ls : Nat → Bool} {vals : Nat → Value} (hone : oneB a0.tmps.size ds = true) (h : Slots ds a0 ls vals a) {i : Nat} {d : Option Nat} (v : Value) (hd : ds[i]? = some d) (hl : ls i = false) :
    Slots ds a0 (upd ls i true) (upd vals i v) (a.put d v) := by
  cases d with
  | none =>
    refine ⟨h.df, h.sz, fun t ht => h.out t fun k hk => ?_, fun k t hk hlk => ?_⟩
    · have hki : k ≠ i := by rintro rfl; rw [hd] at hk; cases hk
      have := ht k hk
      rwa [upd_ne _ _ hki] at this
    · have hki : k ≠ i := by rintro rfl; rw [hd] at hk; cases hk
      rw [upd_ne _ _ hki] at hlk ⊢
      exact h.on k t hk hlk
  | some d =>
    refine ⟨h.df, ?_, fun t ht => ?_, fun k t hk hlk => ?_⟩
    · simp [Act.put, h.sz]
    · have htd : t ≠ d := by
        rintro rfl
        have := ht i hd
        rw [upd_eq] at this
        cases this
      rw [eval_put_ne htd]
      refine h.out t fun k hk => ?_
      have hki : k ≠ i := by rintro rfl; rw [hd] at hk; cases hk; exact htd rfl
      have := ht k hk
      rwa [upd_ne _ _ hki] at this
    · by_cases hki : k = i
      · subst hki
        rw [hd] at hk
        cases hk
        rw [upd_eq, eval_put_eq (by rw [h.sz]; exact oneB_lt hone hd)]
      · have htd : t ≠ d := by rintro rfl; exact hki (oneB_inj hone hk hd)
        rw [upd_ne _ _ hki] at hlk ⊢
        rw [eval_put_ne htd]
        exact h.on k t hk hlk
theorem putAll_slots {ds0 : List (Option Nat)} {a0 : Act} {vals : Nat → Value} (hone : oneB a0.tmps.size ds0 = true) : ∀ (ds pre : List (Option Nat)) (a : Act), ds0 = pre ++ ds → Slots ds0 a0 (fun k => decide (k < pre.length)) vals a →
    Slots ds0 a0 (fun k => decide (k < ds0.length)) vals (putAll ds pre.length vals a)
  | [], pre, a, he, h => by
    rw [List.append_nil] at he
    subst he
    exact h
  | d :: ds, pre, a, he, h => by
    have hd : ds0[pre.length]? = some d := by rw [he]; simp
    have h1 := h.put hone (vals pre.length) hd (by simp)
    have e1 : upd (fun k => decide (k < pre.length)) pre.length true = fun k => decide (k < (pre ++ [d]).length) := by
      funext k
      unfold upd
      by_cases hk : k = pre.length
      · subst hk; simp
      · rw [if_neg hk]
        simp only [List.length_append, List.length_singleton, decide_eq_decide]
        omega
    have e2 : upd vals pre.length (vals pre.length) = vals := by
      funext k
      unfold upd
      split
      · subst_vars; rfl
      · rfl
    rw [e1, e2] at h1
    have := putAll_slots hone ds (pre ++ [d]) _ (by rw [he]; simp) h1
    rw [List.length_append, List.length_singleton] at this
    exact this
theorem Slots.eq {ds : List (Option Nat)} {a0 a a' : Act} {vals : Nat → Value} {ls : Nat → Bool} (h : Slots ds a0 ls vals a) (h' : Slots ds a0 ls vals a') : a = a' := by
  obtain ⟨ts, dfs⟩ := a
  obtain ⟨ts', dfs'⟩ := a'
  have e1 : dfs = dfs' := h.df.trans h'.df.symm
  have e2 : ts.size = ts'.size := h.sz.trans h'.sz.symm
  have e3 : ∀ t, (Act.mk ts dfs).eval (.tmp t) = (Act.mk ts' dfs').eval (.tmp t) := by
    intro t
    by_cases hx : ∃ k, ds[k]? = some (some t) ∧ ls k = true
    · obtain ⟨k, hk, hl⟩ := hx
      rw [h.on k t hk hl, h'.on k t hk hl]
    · have hn : ∀ k, ds[k]? = some (some t) → ls k = false := fun k hk => by
        cases hl : ls k with
        | false => rfl
        | true => exact absurd ⟨k, hk, hl⟩ hx
      rw [h.out t hn, h'.out t hn]
  subst e1
  congr 1
  refine Array.ext e2 fun i h1 h2 => ?_
  have := e3 i
  simp only [Act.eval, Array.getD_eq_getD_getElem?, Array.getElem?_eq_getElem h1, Array.getElem?_eq_getElem h2, Option.getD_some] at this
  exact this
theorem Slots.init (ds : List (Option Nat)) (a : Act) (vals : Nat → Value) : Slots ds a (fun _ => false) vals a := ⟨rfl, rfl, fun _ _ => rfl, fun _ _ _ h => by cases h⟩
theorem Slots.out' {ds : List (Option Nat)} {a0 a : Act} {ls : Nat → Bool} {vals : Nat → Value} (h : Slots ds a0 ls vals a) {t : Nat} {v : Value} (hn : ds.all (fun d => !(d == some t)) = true) (hv : a0.eval (.tmp t) = v) : a.eval (.tmp t) = v :=
  (h.out t fun k hk => by
    have := List.all_eq_true.1 hn (some t) (List.mem_of_getElem? hk)
    simp at this).trans hv
theorem slots_all {ds : List (Option Nat)} {a0 a : Act} {vals : Nat → Value} (hone : oneB a0.tmps.size ds = true) (h : Slots ds a0 (fun k => decide (k < ds.length)) vals a) : a = putAll ds 0 vals a0 := by
  have hi : Slots ds a0 (fun k => decide (k < ([] : List (Option Nat)).length)) vals a0 := by
    have := Slots.init ds a0 vals
    have e : (fun k => decide (k < ([] : List (Option Nat)).length)) = fun _ => false := by funext k; simp
    rw [e]
    exact this
  exact h.eq (putAll_slots hone ds [] a0 rfl hi)

section
variable {P : Program} {ops : Array Oper} {Q : Exit → Act → World → Prop} {ds : List (Option Nat)} {a0 : Act}
theorem wpAny_inv (hds : ops.toList.map (·.dst) = ds) (hone : oneB a0.tmps.size ds = true) (hedge : edgesOk 0 ops.toList = true) (J : (Nat → Bool) → (Nat → Value) → World → Prop)
    (hstep : ∀ (i : Nat) (o : Oper) (ls : Nat → Bool) (vals : Nat → Value) (a : Act) (w : World), ops[i]? = some o → ls i = false → (∀ e ∈ o.after, Region.binds .any e = true → ls e.on = true) →
      Slots ds a0 ls vals a → J ls vals w → wpOp P ops Q i (fun a' w' => ∃ v, a' = a.put o.dst v ∧ J (upd ls i true) (upd vals i v) w') a w)
    (hfin : ∀ (vals : Nat → Value) (w : World), J (fun k => decide (k < ds.length)) vals w → Q .normal (putAll ds 0 vals a0) w) :
    ∀ (fuel : Nat) (listed : Array Bool) (S : List Nat) (vals : Nat → Value) (a : Act) (w : World), listed.size = ops.size → S.length ≤ fuel → (∀ k, k < ops.size → listed.getD k false = false → k ∈ S) →
      Slots ds a0 (fun k => listed.getD k false) vals a → J (fun k => listed.getD k false) vals w → wpAny P .any ops Q fuel listed a w := by
  have hlen : ds.length = ops.size := by rw [← hds]; simp
  have hdone : ∀ (listed : Array Bool) (vals : Nat → Value) (a : Act) (w : World), listed.size = ops.size → (∀ k, k < ops.size → listed.getD k false = true) →
      Slots ds a0 (fun k => listed.getD k false) vals a → J (fun k => listed.getD k false) vals w → Q .normal a w := by
    intro listed vals a w hsz hall hS hJ
    have e : (fun k => listed.getD k false) = fun k => decide (k < ds.length) := by
      funext k
      by_cases hk : k < ops.size
      · rw [hall k hk, hlen]; simp [hk]
      · rw [hlen]; simp [hk, Array.getD, hsz]
    rw [e] at hS hJ
    rw [slots_all hone hS]
    exact hfin vals w hJ
  intro fuel
  induction fuel with
  | zero =>
    intro listed S vals a w hsz hS hmem hSl hJ
    have hnil : S = [] := List.eq_nil_of_length_eq_zero (by omega)
    have hall : ∀ k, k < ops.size → listed.getD k false = true := by
      intro k hk
      cases hb : listed.getD k false with
      | true => rfl
      | false => have := hmem k hk hb; rw [hnil] at this; cases this
    refine ⟨?_, hdone listed vals a w hsz hall hSl hJ⟩
    cases hr : Region.ready .any ops listed with
    | nil => rfl
    | cons j l =>
      have hj : j ∈ Region.ready .any ops listed := by rw [hr]; simp
      rw [mem_ready] at hj
      obtain ⟨h0, o, ho, _⟩ := hj
      have hlt : j < ops.size := (Array.getElem?_eq_some_iff.1 ho).1
      have := hall j hlt
      have e : listed.getD j true = listed.getD j false := by simp [Array.getD, hsz, hlt]
      rw [e, this] at h0
      cases h0
  | succ fuel ih =>
    intro listed S vals a w hsz hS hmem hSl hJ
    have hgd : ∀ k, k < ops.size → listed.getD k true = listed.getD k false := fun k hk => by simp [Array.getD, hsz, hk]
    refine ⟨fun hr => ?_, fun i hi => ?_⟩
    · refine hdone listed vals a w hsz (fun k => ?_) hSl hJ
      induction k using Nat.strongRecOn with
      | _ k ihk =>
        intro hk
        cases hb : listed.getD k false with
        | true => rfl
        | false =>
          exfalso
          have hkr : k ∈ Region.ready .any ops listed := by
            rw [mem_ready]
            refine ⟨by rw [hgd k hk]; exact hb, ops[k], Array.getElem?_eq_getElem hk, fun e he hbd => ?_⟩
            have hlt := edgesOk_spec hedge k ops[k] (by simp [hk]) e (by simpa using he) hbd
            exact ihk e.on (by omega) (by omega)
          rw [hr] at hkr
          cases hkr
    · rw [mem_ready] at hi
      obtain ⟨h0, o, ho, hpre⟩ := hi
      have hlt : i < ops.size := (Array.getElem?_eq_some_iff.1 ho).1
      have hnl : listed.getD i false = false := by rw [← hgd i hlt]; exact h0
      have hd : ds[i]? = some o.dst := by rw [← hds]; simp [ho]
      refine wpOp_mono ?_ (hstep i o _ vals a w ho hnl hpre hSl hJ)
      rintro a' w' ⟨v, rfl, hJ'⟩
      have e : upd (fun k => listed.getD k false) i true = fun k => (listed.setIfInBounds i true).getD k false := by
        funext k
        by_cases hk : k = i
        · subst hk; rw [upd_eq]; simp [Array.getD, hsz, hlt]
        · rw [upd_ne _ _ hk, getD_set_ne false (Ne.symm hk)]
      have hSl' := hSl.put hone v hd hnl
      rw [e] at hSl' hJ'
      have hiS := hmem i hlt hnl
      refine ih (listed.setIfInBounds i true) (S.erase i) _ _ w' (by simpa using hsz) ?_ (fun k hk hkl => ?_) hSl' hJ'
      · rw [List.length_erase_of_mem hiS]; omega
      · have hne : k ≠ i := by
          intro e
          subst e
          simp [Array.getD, hsz, hlt] at hkl
        rw [getD_set_ne false (Ne.symm hne)] at hkl
        exact (List.mem_erase_of_ne hne).2 (hmem k hk hkl)
/-- A region that draws its order. -/
theorem wp_region_inv (ds : List (Option Nat)) (J : (Nat → Bool) → (Nat → Value) → World → Prop) (hm : P.follows .mixedOrders = true) {id : Nat} {w : World} (hds : ops.toList.map (·.dst) = ds) (hone : oneB a0.tmps.size ds = true) (hedge : edgesOk 0 ops.toList = true)
    (hJ : ∀ vals, J (fun _ => false) vals w.drew)
    (hstep : ∀ (i : Nat) (o : Oper) (ls : Nat → Bool) (vals : Nat → Value) (a : Act) (w : World), ops[i]? = some o → ls i = false → (∀ e ∈ o.after, Region.binds .any e = true → ls e.on = true) →
      Slots ds a0 ls vals a → J ls vals w → wpOp P ops Q i (fun a' w' => ∃ v, a' = a.put o.dst v ∧ J (upd ls i true) (upd vals i v) w') a w)
    (hfin : ∀ (vals : Nat → Value) (w : World), J (fun k => decide (k < ds.length)) vals w → Q .normal (putAll ds 0 vals a0) w) : (Code.region id ops true).wp P Q a0 w := by
  have e : (fun k => (Array.replicate ops.size false).getD k false) = fun _ => false := by funext k; simp [Array.getD]
  refine wp_region_any hm (wpAny_inv hds hone hedge J hstep hfin ops.size _ (List.range ops.size) (fun _ => undef) a0 _ (by simp) (by simp) (fun k hk _ => by simpa using hk) ?_ ?_)
  · rw [e]; exact Slots.init ds a0 _
  · rw [e]; exact hJ _
/-- One operation without a guard. -/
theorem wpOp_run {i : Nat} {o : Oper} {a : Act} {w w' : World} {v : Value} {K : Act → World → Prop} (ho : ops[i]? = some o) (hg : o.guard = none) (hrun : (execOp a.eval o).run P w = .ok (.value v) w') (h : K (a.put o.dst v) w') : wpOp P ops Q i K a w := by
  unfold wpOp
  rw [ho]
  have : Region.wanted o (yielded ops a.tmps) = true := by unfold Region.wanted; rw [hg]
  simp only [this, if_true]
  left
  unfold Oper.wp
  rw [hrun]
  exact h
theorem wpOp_skip {i : Nat} {o : Oper} {a : Act} {w w' : World} {K : Act → World → Prop} (ho : ops[i]? = some o) (hg : o.guard = none) (hrun : (execOp a.eval o).run P w = .ok .skip w') (h : K (a.put o.dst undef) w') : wpOp P ops Q i K a w := by
  unfold wpOp
  rw [ho]
  have : Region.wanted o (yielded ops a.tmps) = true := by unfold Region.wanted; rw [hg]
  simp only [this, if_true]
  left
  unfold Oper.wp
  rw [hrun]
  exact h
theorem wpOp_enter {i : Nat} {o : Oper} {a : Act} {w w' : World} {f : FuncId} {args : Array Value} {K : Act → World → Prop} (ho : ops[i]? = some o) (hg : o.guard = none) (hrun : (execOp a.eval o).run P w = .ok (.enter f args) w')
    (h : Calls P f args w' fun e w'' => ∃ v, e = .returned v ∧ K (a.put o.dst v) w'') : wpOp P ops Q i K a w := by
  unfold wpOp
  rw [ho]
  have : Region.wanted o (yielded ops a.tmps) = true := by unfold Region.wanted; rw [hg]
  simp only [this, if_true]
  left
  unfold Oper.wp
  rw [hrun, Oper.upon_enter]
  refine h.mono fun e w'' hh => ?_
  obtain ⟨v, rfl, hk⟩ := hh
  exact hk
end

/-- A call of a function that is named. -/
theorem wpOp_call {P : Program} {ops : Array Oper} {Q : Exit → Act → World → Prop} {i : Nat} {oi : Oper} {a : Act} {w : World} {K : Act → World → Prop} {as_ : Array Operand} {ts : Array TypeId} (ho : ops[i]? = some oi) (hg : oi.guard = none) {f : FuncId} {fn : Func} (hf : P.funcs[f]? = some fn) (hname : (fn.name == "runtime.NumGoroutine") = false) (hb : fn.body.isSome = true) (args : Array Value)
    (hop : oi.op = .call { callee := .value (.func f), args := as_, argTypes := ts }) (hargs : as_.map a.eval = args) (h : Calls P f args w fun e w'' => ∃ v, e = .returned v ∧ K (a.put oi.dst v) w'') : wpOp P ops Q i K a w := by
  have he := Go.Proofs.YtcmphojichgfeaaDoorW.PrintLast.enters_ hf hname hb args w
  have hrun : (execOp a.eval oi).run P w = .ok (.enter f args) w := by
    unfold execOp
    simp [hop, resolve, Deferred.ofValue, invoke, Act.eval, hargs, he]
  exact wpOp_enter ho hg hrun h
/-- Values, and what is known of the others behind new blocks. -/
structure JV (X : Nat → Option Value) (B : Nat → Value → World → Prop) (n0 : Nat) (w0 : World) (ls : Nat → Bool) (vals : Nat → Value) (w : World) : Prop where
  below : Below n0 w0 w
  hn : n0 ≤ w.heap.size
  val : ∀ k v, X k = some v → ls k = true → vals k = v
  oth : ∀ k, X k = none → ls k = true → B k (vals k) w
section
variable {X : Nat → Option Value} {B : Nat → Value → World → Prop} {n0 : Nat} {w0 w w' : World} {ls : Nat → Bool} {vals : Nat → Value}
theorem JV.init (h : Below n0 w0 w) (hn : n0 ≤ w.heap.size) (vals : Nat → Value) : JV X B n0 w0 (fun _ => false) vals w := ⟨h, hn, fun _ _ _ h => (by cases h), fun _ _ h => (by cases h)⟩
theorem JV.put (hB : ∀ k v w w', B k v w → Below w.heap.size w w' → B k v w') (h : JV X B n0 w0 ls vals w) {i : Nat} {v : Value} (hv : ∀ u, X i = some u → v = u) (ho : X i = none → B i v w') (hb : Below w.heap.size w w') : JV X B n0 w0 (upd ls i true) (upd vals i v) w' := by
  refine ⟨h.below.trans ⟨hb.os, hb.tape, hb.output, hb.size, fun i hi => hb.block i (Nat.lt_of_lt_of_le hi h.hn)⟩, Nat.le_trans h.hn hb.size, fun k u hk hl => ?_, fun k hk hl => ?_⟩
  · by_cases hki : k = i
    · subst hki
      rw [upd_eq]
      exact hv u hk
    · rw [upd_ne _ _ hki] at hl ⊢
      exact h.val k u hk hl
  · by_cases hki : k = i
    · subst hki
      rw [upd_eq]
      exact ho hk
    · rw [upd_ne _ _ hki] at hl ⊢
      exact hB _ _ _ _ (h.oth k hk hl) hb
theorem JV.value (hB : ∀ k v w w', B k v w → Below w.heap.size w w' → B k v w') (h : JV X B n0 w0 ls vals w) {i : Nat} {v : Value} (hX : X i = some v) (hb : Below w.heap.size w w') : JV X B n0 w0 (upd ls i true) (upd vals i v) w' :=
  h.put hB (fun u hu => by rw [hX] at hu; cases hu; rfl) (fun hn => by rw [hX] at hn; cases hn) hb
theorem JV.other (hB : ∀ k v w w', B k v w → Below w.heap.size w w' → B k v w') (h : JV X B n0 w0 ls vals w) {i : Nat} {v : Value} (hX : X i = none) (ho : B i v w') (hb : Below w.heap.size w w') : JV X B n0 w0 (upd ls i true) (upd vals i v) w' :=
  h.put hB (fun u hu => by rw [hX] at hu; cases hu) (fun _ => ho) hb
end
end Go.DR
