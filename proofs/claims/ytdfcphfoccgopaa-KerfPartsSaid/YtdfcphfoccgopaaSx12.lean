/- A symbolic executor over the loaded program of a seat: a region that draws its order, whatever order is drawn. -/
import Derived.Test.YtdfcphfoccgopaaSx11
namespace Go.Sx
open Go.RowKit (Below)
set_option linter.unusedVariables false
set_option linter.unusedSimpArgs false

/-! ### What stands before what -/
theorem foldl_mask (ms : List Nat) (i : Nat) : ∀ (l : List Edge) (s : Nat), (l.foldl (fun s e => if Region.binds .any e then s ||| (2 ^ e.on) ||| ms.getD e.on 0 else s) s).testBit i = true →
    s.testBit i = true ∨ ∃ e ∈ l, Region.binds .any e = true ∧ (e.on = i ∨ (ms.getD e.on 0).testBit i = true)
  | [], s, h => Or.inl h
  | e :: l, s, h => by
    rw [List.foldl_cons] at h
    rcases foldl_mask ms i l _ h with h | ⟨e', he', hb, h⟩
    · split at h
      · rename_i hb
        simp only [Nat.testBit_or, Bool.or_eq_true] at h
        rcases h with (h | h) | h
        · exact Or.inl h
        · right
          refine ⟨e, by simp, hb, Or.inl ?_⟩
          rw [Nat.testBit_two_pow] at h
          simpa using h
        · exact Or.inr ⟨e, by simp, hb, Or.inr h⟩
      · exact Or.inl h
    · exact Or.inr ⟨e', by simp [he'], hb, h⟩
theorem maskOf_bit {ms : List Nat} {o : Oper} {i : Nat} (h : (maskOf ms o).testBit i = true) : ∃ e ∈ o.after.toList, Region.binds .any e = true ∧ (e.on = i ∨ (ms.getD e.on 0).testBit i = true) := by
  rcases foldl_mask ms i _ _ h with h | h
  · simp at h
  · exact h
theorem masks_prefix : ∀ (os : List Oper) (ms : List Nat), ∃ t, masks os ms = ms ++ t
  | [], ms => ⟨[], by simp [masks]⟩
  | o :: os, ms => by
    obtain ⟨t, ht⟩ := masks_prefix os (ms ++ [maskOf ms o])
    exact ⟨maskOf ms o :: t, by rw [masks, ht]; simp⟩
theorem masks_get : ∀ (os : List Oper) (ms : List Nat) (j : Nat) (o : Oper), os[j]? = some o → (masks os ms)[ms.length + j]? = some (maskOf ((masks os ms).take (ms.length + j)) o)
  | [], _, _, _, h => by simp at h
  | o :: os, ms, 0, o', h => by
    simp at h
    subst h
    obtain ⟨t, ht⟩ := masks_prefix os (ms ++ [maskOf ms o])
    rw [masks, ht]
    simp
  | o :: os, ms, j + 1, o', h => by
    have := masks_get os (ms ++ [maskOf ms o]) j o' (by simpa using h)
    rw [masks]
    simp only [List.length_append, List.length_singleton] at this
    rwa [show ms.length + 1 + j = ms.length + (j + 1) by omega] at this
theorem edgesOk_spec : ∀ {L : List Oper} {s : Nat}, edgesOk s L = true → ∀ j o, L[j]? = some o → ∀ e ∈ o.after.toList, Region.binds .any e = true → e.on < s + j
  | [], _, _, _, _, h => by simp at h
  | o :: L, s, h, 0, o', ho => by
    simp at ho
    subst ho
    simp only [edgesOk, Bool.and_eq_true] at h
    intro e he hb
    have := List.all_eq_true.1 h.1 e he
    rw [hb] at this
    simpa using this
  | o :: L, s, h, j + 1, o', ho => by
    simp only [edgesOk, Bool.and_eq_true] at h
    intro e he hb
    have := edgesOk_spec h.2 j o' (by simpa using ho) e he hb
    omega
theorem closure {L : List Oper} (he : edgesOk 0 L = true) {ls : Nat → Bool} (hdc : ∀ j o, L[j]? = some o → ls j = true → ∀ e ∈ o.after.toList, Region.binds .any e = true → ls e.on = true) :
    ∀ (j : Nat) (o : Oper), L[j]? = some o → (∀ e ∈ o.after.toList, Region.binds .any e = true → ls e.on = true) → ∀ i, ((masks L []).getD j 0).testBit i = true → ls i = true := by
  intro j
  induction j using Nat.strongRecOn with
  | _ j ih =>
    intro o ho hpre i hi
    have hm := masks_get L [] j o ho
    simp only [List.length_nil, Nat.zero_add] at hm
    rw [List.getD_eq_getElem?_getD, hm, Option.getD_some] at hi
    obtain ⟨e, hem, hb, h⟩ := maskOf_bit hi
    rcases h with rfl | h
    · exact hpre e hem hb
    · have hlt : e.on < j := by simpa using edgesOk_spec he j o ho e hem hb
      have hls := hpre e hem hb
      have hL : e.on < L.length := by have := (List.getElem?_eq_some_iff.1 ho).1; omega
      have hbit : ((masks L []).getD e.on 0).testBit i = true := by
        rw [List.getD_eq_getElem?_getD, List.getElem?_take_of_lt hlt] at h
        rwa [List.getD_eq_getElem?_getD]
      exact ih e.on hlt L[e.on] (List.getElem?_eq_getElem hL) (hdc e.on _ (List.getElem?_eq_getElem hL) hls) i hbit
theorem clashFree_spec {m : Nat} {r : Rec} : ∀ {xs : List Rec} {s : Nat}, clashFree m r s xs = true → ∀ i x, xs[i]? = some x → m.testBit (s + i) = true ∨ x.clash r = false
  | [], _, _, _, _, h => by simp at h
  | y :: xs, s, h, 0, x, hx => by
    simp at hx
    subst hx
    simp only [clashFree, Bool.and_eq_true, Bool.or_eq_true, Bool.not_eq_true'] at h
    exact h.1
  | y :: xs, s, h, i + 1, x, hx => by
    simp only [clashFree, Bool.and_eq_true] at h
    have := clashFree_spec h.2 i x (by simpa using hx)
    rwa [show s + 1 + i = s + (i + 1) by omega] at this
theorem drawCheck_spec {ms : List Nat} : ∀ {rs before : List Rec} {j : Nat}, drawCheck ms before j rs = true → before.length = j → ∀ k r i x, rs[k]? = some r → (before ++ rs)[i]? = some x → i < j + k →
    (ms.getD (j + k) 0).testBit i = true ∨ x.clash r = false
  | [], _, _, _, _, _, _, _, _, h, _, _ => by simp at h
  | y :: rs, before, j, h, hl, 0, r, i, x, hr, hx, hi => by
    simp at hr
    subst hr
    simp only [drawCheck, Bool.and_eq_true] at h
    have := clashFree_spec h.1 i x (by rwa [List.getElem?_append_left (by omega)] at hx)
    simpa using this
  | y :: rs, before, j, h, hl, k + 1, r, i, x, hr, hx, hi => by
    simp only [drawCheck, Bool.and_eq_true] at h
    have := drawCheck_spec h.2 (by simp [hl]) k r i x (by simpa using hr) (by simpa using hx) (by omega)
    rwa [show j + 1 + k = j + (k + 1) by omega] at this

/-! ### Clashes -/
theorem clash_tm {x r : Rec} {t : Nat} (h : x.wrTm t) (hr : t ∈ r.looks ∨ r.dst = some t) : x.clash r = true ∧ r.clash x = true := by
  have h' : x.dst = some t := h
  constructor
  · rcases hr with hr | hr
    · simp [Rec.clash, h', hr]
    · simp [Rec.clash, h', hr]
  · rcases hr with hr | hr
    · simp [Rec.clash, h', hr]
    · simp [Rec.clash, h', hr]
theorem meet_comm (x y : Option (Nat × Option (Nat × Nat))) : meet x y = meet y x := by
  cases x with
  | none => cases y <;> rfl
  | some x =>
    cases y with
    | none => rfl
    | some y =>
      obtain ⟨b, x⟩ := x
      obtain ⟨b', y⟩ := y
      simp only [meet]
      congr 1
      · exact Bool.beq_comm
      · cases x with
        | none => cases y <;> rfl
        | some x =>
          cases y with
          | none => rfl
          | some y => simp only []; exact Bool.and_comm _ _
theorem clash_rd {x r : Rec} {b o off n : Nat} (h : x.wrCell b o) (hr : r.rd = some (b, off, n)) (h1 : off ≤ o) (h2 : o < off + n) : x.clash r = true ∧ r.clash x = true := by
  have hm : meet x.eff.touch r.rdTouch = true := by
    unfold Rec.wrCell at h
    cases hx : x.eff with
    | no => rw [hx] at h; exact h.elim
    | new id blk =>
      rw [hx] at h
      simp only at h
      subst h
      simp [meet, Eff.touch, Rec.rdTouch, hr]
    | wr b' o' cs =>
      rw [hx] at h
      obtain ⟨rfl, h3, h4⟩ := h
      simp [meet, Eff.touch, Rec.rdTouch, hr]
      omega
  constructor
  · simp [Rec.clash, hm]
  · simp [Rec.clash, hm]

/-! ### Reading the same -/
theorem evalV_congr {tm tm' : Nat → Option TV} : ∀ {xs : List Operand}, (∀ t ∈ tmpsOf xs, tm t = tm' t) → xs.mapM (evalV tm) = xs.mapM (evalV tm')
  | [], _ => by simp
  | x :: xs, h => by
    have h1 : evalV tm x = evalV tm' x := by
      cases x with
      | tmp t => exact h t (by simp [tmpsOf])
      | _ => rfl
    have h2 : xs.mapM (evalV tm) = xs.mapM (evalV tm') := evalV_congr fun t ht => h t (by
      unfold tmpsOf at ht ⊢
      cases x <;> simp_all [List.filterMap_cons])
    simp only [List.mapM_cons, h1, h2]
theorem wantedV_congr {ops : List Oper} {tm tm' : Nat → Option TV} {o : Oper} (h : ∀ t ∈ looksOf ops o, tm t = tm' t) : wantedV ops tm o = wantedV ops tm' o := by
  unfold wantedV
  cases hg : o.guard with
  | none => rfl
  | some p =>
    obtain ⟨j, want⟩ := p
    simp only
    cases hd : (ops[j]?).bind (·.dst) with
    | none => rfl
    | some d =>
      have : tm d = tm' d := h d (by simp [looksOf, hg, hd])
      simp only [this]

section
variable {C : Cfg} {Φ : Ctx} {w0 : World}
theorem Inv.drew {ρ : List Sc} {β0 β : Bij} {v : View} {a : Act} {w : World} (h : Inv Φ ρ w0 β0 v β a w) : Inv Φ ρ w0 β0 v β a w.drew :=
  ⟨h.tm, h.defers, h.ty, h.cty, h.inj, h.dom, h.ext, h.below.drew, h.sz, h.gg⟩
theorem draw_any {ρ : List Sc} {β0 : Bij} {ops : Array Oper} {base : Nat} {rs : List Rec} {V0 : View} {Q : Exit → Act → World → Prop} (hlen : rs.length = ops.size)
    (hop : ∀ k o r, ops.toList[k]? = some o → rs[k]? = some r → OpAt C Φ ρ w0 ops base k o r ((rs.take k).foldl vApp V0))
    (hchk : ∀ i j x y, i < j → rs[i]? = some x → rs[j]? = some y → ((masks ops.toList []).getD j 0).testBit i = true ∨ x.clash y = false)
    (hbase : ∀ k, V0.ty (base + k) = none) (hedge : edgesOk 0 ops.toList = true) (hfin : ∀ β a w, Inv Φ ρ w0 β0 (rs.foldl vApp V0) β a w → Q .normal a w) :
    ∀ (fuel : Nat) (listed : Array Bool) (S : List Nat) (a : Act) (w : World) (β : Bij), listed.size = ops.size → S.length ≤ fuel → (∀ k, k < ops.size → listed.getD k false = false → k ∈ S) →
      (∀ j o, ops.toList[j]? = some o → listed.getD j false = true → ∀ e ∈ o.after.toList, Region.binds .any e = true → listed.getD e.on false = true) →
      Inv Φ ρ w0 β0 (foldL (fun k => listed.getD k false) 0 rs V0) β a w → wpAny C.P .any ops Q fuel listed a w := by
  -- when all are listed
  have hdone : ∀ (listed : Array Bool) (a : Act) (w : World) (β : Bij), (∀ k, k < ops.size → listed.getD k false = true) → Inv Φ ρ w0 β0 (foldL (fun k => listed.getD k false) 0 rs V0) β a w → Q .normal a w := by
    intro listed a w β hall hI
    rw [foldL_all rs 0 V0 fun j hj => by simpa using hall j (by omega)] at hI
    exact hfin β a w hI
  intro fuel
  induction fuel with
  | zero =>
    intro listed S a w β hsz hS hmem hdc hI
    have hnil : S = [] := List.eq_nil_of_length_eq_zero (by omega)
    have hall : ∀ k, k < ops.size → listed.getD k false = true := by
      intro k hk
      cases hb : listed.getD k false with
      | true => rfl
      | false => have := hmem k hk hb; rw [hnil] at this; cases this
    refine ⟨?_, hdone listed a w β hall hI⟩
    cases hr : Region.ready .any ops listed with
    | nil => rfl
    | cons j l =>
      have hj : j ∈ Region.ready .any ops listed := by rw [hr]; simp
      rw [mem_ready] at hj
      obtain ⟨h0, o, ho, _⟩ := hj
      have hlt : j < ops.size := (Array.getElem?_eq_some_iff.1 ho).1
      have := hall j hlt
      have e : listed.getD j true = listed.getD j false := by simp [Array.getD, hsz, hlt]
      rw [e, this] at h0
      cases h0
  | succ fuel ih =>
    intro listed S a w β hsz hS hmem hdc hI
    have hgd : ∀ k, k < ops.size → listed.getD k true = listed.getD k false := fun k hk => by simp [Array.getD, hsz, hk]
    refine ⟨fun hr => ?_, fun i hi => ?_⟩
    · -- nothing is ready: all are listed
      refine hdone listed a w β (fun k => ?_) hI
      induction k using Nat.strongRecOn with
      | _ k ihk =>
        intro hk
        cases hb : listed.getD k false with
        | true => rfl
        | false =>
          exfalso
          have hkr : k ∈ Region.ready .any ops listed := by
            rw [mem_ready]
            refine ⟨by rw [hgd k hk]; exact hb, ops[k], Array.getElem?_eq_getElem hk, fun e he hbd => ?_⟩
            have hlt := edgesOk_spec hedge k ops[k] (by simp [hk]) e (by simpa using he) hbd
            exact ihk e.on (by omega) (by omega)
          rw [hr] at hkr
          cases hkr
    · rw [mem_ready] at hi
      obtain ⟨h0, o, ho, hpre⟩ := hi
      have hlt : i < ops.size := (Array.getElem?_eq_some_iff.1 ho).1
      have ho' : ops.toList[i]? = some o := by simpa using ho
      have hnl : listed.getD i false = false := by rw [← hgd i hlt]; exact h0
      have hr : rs[i]? = some rs[i] := List.getElem?_eq_getElem (by omega)
      generalize rs[i] = r at hr
      obtain ⟨hdst, hlooks, hdsome, hnew, hcase⟩ := hop i o r ho' hr
      have hpre' : ∀ e ∈ o.after.toList, Region.binds .any e = true → listed.getD e.on false = true := fun e he hb => hpre e (by simpa using he) hb
      -- what clashes with r and is done stands before it
      have key : ∀ k x, rs[k]? = some x → x.clash r = true → r.clash x = true → listed.getD k false = decide (k < i) := by
        intro k x hx h1 h2
        rcases Nat.lt_trichotomy k i with hki | hki | hki
        · rcases hchk k i x r hki hx hr with h | h
          · rw [closure hedge hdc i o ho' hpre' k h]; simp [hki]
          · rw [h1] at h; cases h
        · subst hki; rw [hnl]; simp
        · rcases hchk i k r x hki hr hx with h | h
          · cases hb : listed.getD k false with
            | false => simp; omega
            | true =>
              have hkl : k < ops.toList.length := by have := (List.getElem?_eq_some_iff.1 hx).1; simp; omega
              have hok : ops.toList[k]? = some ops.toList[k] := List.getElem?_eq_getElem hkl
              have := closure hedge hdc k _ hok (hdc k _ hok hb) i h
              rw [hnl] at this
              cases this
          · rw [h2] at h; cases h
      have htm : ∀ t, t ∈ r.looks ∨ r.dst = some t → (foldL (fun k => listed.getD k false) 0 rs V0).tm t = ((rs.take i).foldl vApp V0).tm t := by
        intro t ht
        rw [show (rs.take i).foldl vApp V0 = foldL (fun j => decide (j < i)) 0 rs V0 by rw [foldL_prefix]; simp]
        refine foldL_get (fun v => v.tm t) (Rec.wrTm t) (fun v x hx => vApp_tm_ne hx) (fun v v' x h => by simp only [vApp_tm]; rw [h]) rs 0 V0 V0 rfl fun k x hx hW => ?_
        simp only [Nat.zero_add]
        exact key k x hx (clash_tm hW ht).1 (clash_tm hW ht).2
      have hcell : ∀ b off n, r.rd = some (b, off, n) → ∀ o', off ≤ o' → o' < off + n → (foldL (fun k => listed.getD k false) 0 rs V0).cell b o' = ((rs.take i).foldl vApp V0).cell b o' := by
        intro b off n hrd o' h1 h2
        rw [show (rs.take i).foldl vApp V0 = foldL (fun j => decide (j < i)) 0 rs V0 by rw [foldL_prefix]; simp]
        refine foldL_get (fun v => v.cell b o') (Rec.wrCell b o') (fun v x hx => vApp_cell_ne hx) (fun v v' x h => by simp only [vApp_cell]; rw [h]) rs 0 V0 V0 rfl fun k x hx hW => ?_
        simp only [Nat.zero_add]
        exact key k x hx (clash_rd hW hrd h1 h2).1 (clash_rd hW hrd h1 h2).2
      have hty : (foldL (fun k => listed.getD k false) 0 rs V0).ty (base + i) = none := by
        rw [← hbase i]
        have hno : foldL (fun _ => false) 0 rs V0 = V0 := by
          have : ∀ (l : List Rec) (s : Nat) (v : View), foldL (fun _ => false) s l v = v := by
            intro l
            induction l with
            | nil => intro s v; rfl
            | cons x l ih => intro s v; simp only [foldL, Bool.false_eq_true, if_false]; exact ih _ _
          exact this rs 0 V0
        conv => rhs; rw [← hno]
        refine foldL_get (fun v => v.ty (base + i)) (Rec.wrTy (base + i)) (fun v x hx => vApp_ty_ne hx) (fun v v' x h => by simp only [vApp_ty]; rw [h]) rs 0 V0 V0 rfl fun k x hx hW => ?_
        simp only [Nat.zero_add]
        have hkl : k < ops.toList.length := by have := (List.getElem?_eq_some_iff.1 hx).1; simp; omega
        obtain ⟨_, _, _, hnew', _⟩ := hop k _ x (List.getElem?_eq_getElem hkl) hx
        unfold Rec.wrTy at hW
        cases hxe : x.eff with
        | new id blk =>
          rw [hxe] at hW
          simp only at hW
          have := hnew' id blk hxe
          have : k = i := by omega
          subst this
          exact hnl
        | no => rw [hxe] at hW; exact hW.elim
        | wr _ _ _ => rw [hxe] at hW; exact hW.elim
      have hd' : ∀ d, o.dst = some d → ∃ z, (foldL (fun k => listed.getD k false) 0 rs V0).tm d = some z := by
        intro d hd
        rw [htm d (Or.inr (by rw [hdst, hd]))]
        exact hdsome d hd
      -- the next state
      have hnext : foldL (fun k => (listed.setIfInBounds i true).getD k false) 0 rs V0 = vApp (foldL (fun k => listed.getD k false) 0 rs V0) r := by
        refine foldL_insert rs 0 i V0 hr (by simpa using hnl) ?_ (fun j hj => ?_) fun j x hij hx hl v => ?_
        · simp [Array.getD, hsz, hlt]
        · exact getD_set_ne false (by omega)
        · simp only [Nat.zero_add] at hl
          refine clash_comm ?_ v
          rcases hchk i j r x hij hr hx with h | h
          · have hjl : j < ops.toList.length := by have := (List.getElem?_eq_some_iff.1 hx).1; simp; omega
            have hoj : ops.toList[j]? = some ops.toList[j] := List.getElem?_eq_getElem hjl
            have := closure hedge hdc j _ hoj (hdc j _ hoj hl) i h
            rw [hnl] at this
            cases this
          · exact h
      have hstep : ∀ β' a' w', Inv Φ ρ w0 β0 (vApp (foldL (fun k => listed.getD k false) 0 rs V0) r) β' a' w' → wpAny C.P .any ops Q fuel (listed.setIfInBounds i true) a' w' := by
        intro β' a' w' hI'
        have hiS := hmem i hlt hnl
        refine ih (listed.setIfInBounds i true) (S.erase i) a' w' β' (by simpa using hsz) ?_ (fun k hk hkl => ?_) (fun j oj hoj hl e he hb => ?_) (by rw [hnext]; exact hI')
        · rw [List.length_erase_of_mem hiS]; omega
        · have hne : k ≠ i := by
            intro e
            subst e
            simp [Array.getD, hsz, hlt] at hkl
          rw [getD_set_ne false (Ne.symm hne)] at hkl
          exact (List.mem_erase_of_ne hne).2 (hmem k hk hkl)
        · by_cases hji : j = i
          · subst hji
            rw [ho'] at hoj
            cases hoj
            exact getD_set_true (hpre' e he hb)
          · rw [getD_set_ne false (Ne.symm hji)] at hl
            exact getD_set_true (hdc j oj hoj hl e he hb)
      have hlk : ∀ t ∈ looksOf ops.toList o, (foldL (fun k => listed.getD k false) 0 rs V0).tm t = ((rs.take i).foldl vApp V0).tm t := fun t ht => htm t (Or.inl (by rw [hlooks]; exact ht))
      unfold wpOp
      rw [ho]
      simp only
      rcases hcase with ⟨hw, htv, heff⟩ | ⟨hw, vs, mem, hvs, hmr, hgood, hrd⟩
      · rw [← wantedV_congr hlk] at hw
        rw [wantedA_sound hw hI.tm]
        simp only [Bool.false_eq_true, if_false]
        refine hstep β _ w ?_
        unfold vApp
        rw [heff, htv, hdst]
        exact hI.put hd' undef_rel
      · rw [← wantedV_congr hlk] at hw
        rw [wantedA_sound hw hI.tm]
        simp only [if_true]
        left
        have hvs' : operandsV (foldL (fun k => listed.getD k false) 0 rs V0).tm o.op = some vs := by
          rw [← hvs]
          exact evalV_congr fun t ht => hlk t (by simp [looksOf, ht])
        refine hgood β0 _ β a w hI hd' (mapM_eval hI.tm hvs') (fun b off n cs hfoot hm => ?_) hty _ _ fun β' a' w' hle hI' => ?_
        · obtain ⟨hl, hc⟩ := hmr b off n cs hfoot hm
          refine ⟨hl, fun k c hk => ?_⟩
          have hkl : k < n := by have := (List.getElem?_eq_some_iff.1 hk).1; omega
          rw [hcell b off n (by rw [hrd, hfoot]) (off + k) (by omega) (by omega)]
          exact hc k c hk
        · refine hstep β' a' w' ?_
          unfold vApp
          rw [hdst]
          exact hI'
theorem draw_sound (hcon : ∀ f sg, C.con f = some sg → Contract C.P f sg (Φ f)) (hm : C.P.follows .mixedOrders = true) {id : Nat} {ops : Array Oper} {σ : St} {ρ : List Sc} {β0 β : Bij} {a : Act} {w : World} {Qt : Out → List Sc → Prop}
    (h : (drawT C ops.toList σ).holds Φ ρ Qt) (hS : SInv Φ ρ w0 β0 σ β a w) : (Code.region id ops true).wp C.P (PostOf Φ Qt ρ w0 β0) a w := by
  unfold drawT at h
  split at h
  · rename_i hedge
    have hview : viewOf σ.tm (σ.heap ++ List.replicate ops.toList.length none) = viewOf σ.tm σ.heap := getD_none_view _ _ _
    obtain ⟨σ', rs, hQ, hf', hnv, hl, hv, hall⟩ := drawOps_sound (w0 := w0) hcon ops.toList 0 _ _ (toT_holds h) hS.facts (by simp)
    simp only at hQ
    split at hQ
    · rename_i hchk
      simp only [hview, Nat.zero_add] at hall hv
      refine wp_region_any hm (draw_any (C := C) (ρ := ρ) (β0 := β0) (base := σ.heap.length) (rs := rs) (V0 := viewOf σ.tm σ.heap) (by simpa using hl) hall (fun i j x y hij hx hy => ?_) (fun k => ?_) hedge (fun β' a' w' hI => ?_) ops.size _ (List.range ops.size) a _ β (by simp) (by simp)
        (fun k hk _ => by simpa using hk) (fun j o hj hlj => ?_) ?_)
      · have := drawCheck_spec hchk rfl j y i x hy (by simpa using hx) (by omega)
        simpa using this
      · simp [viewOf, tyV]
      · exact ⟨.normal, σ', ρ, β', rfl, hQ, List.prefix_refl ρ, ⟨by rw [hv]; exact hI, hf', by rw [hnv]; exact hS.len⟩⟩
      · have hjl : j < ops.size := by have := (List.getElem?_eq_some_iff.1 hj).1; simpa using this
        simp [Array.getD, hjl] at hlj
      · have hno : foldL (fun k => (Array.replicate ops.size false).getD k false) 0 rs (viewOf σ.tm σ.heap) = viewOf σ.tm σ.heap := by
          have hff : ∀ k, (Array.replicate ops.size false).getD k false = false := by intro k; simp [Array.getD]
          have : ∀ (l : List Rec) (s : Nat) (v : View), foldL (fun k => (Array.replicate ops.size false).getD k false) s l v = v := by
            intro l
            induction l with
            | nil => intro s v; rfl
            | cons x l ih => intro s v; unfold foldL; rw [if_neg (by rw [hff]; simp)]; exact ih _ _
          exact this rs 0 _
        rw [hno]
        exact hS.inv.drew
    · exact hQ.elim
  · exact h.elim
end
end Go.Sx
