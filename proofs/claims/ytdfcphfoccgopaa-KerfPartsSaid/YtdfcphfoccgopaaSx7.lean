/- A symbolic executor over the loaded program of a seat: one operation. -/
import Derived.Test.YtdfcphfoccgopaaSx6
namespace Go.Sx
open Go.RowKit (Below)
set_option linter.unusedVariables false
set_option linter.unusedSimpArgs false

theorem ex_v {P : Program} {s : Sem Value} {w w' : World} {y : Value} (h : s.run P w = .ok y w') : (do pure (Next.value (← s)) : Sem Next).run P w = .ok (.value y) w' := by simp [h]
theorem ex_u {P : Program} {s : Sem Unit} {w w' : World} (h : s.run P w = .ok () w') : (do s; pure Next.skip : Sem Next).run P w = .ok .skip w' := by simp [h]
section
variable {C : Cfg} {Φ : Ctx} {ρ : List Sc} {w0 : World} {β0 β : Bij} {v : View} {a : Act} {w : World}
theorem capsOf_sound : ∀ {vs : List TV} {caps : List (Nat × Nat)}, step.capsOf vs = some caps → ∀ {us : List Value}, Rel2 (TV.rel Φ ρ β) vs us → Rel2 (ptrRel β) caps us
  | [], caps, h, us, hr => by
    simp [step.capsOf] at h; subst h
    cases us with
    | nil => trivial
    | cons _ _ => exact hr.elim
  | x :: r, caps, h, us, hr => by
    unfold step.capsOf at h
    split at h
    · rename_i heq; cases heq
    · rename_i b o r' heq
      cases heq
      cases hm : step.capsOf r with
      | none => simp [hm] at h
      | some cs =>
        simp [hm] at h
        subst h
        cases us with
        | nil => exact hr.elim
        | cons u us => exact ⟨hr.1, capsOf_sound hm hr.2⟩
    · cases h
theorem foldMM_max {P : Program} : ∀ {r : List TV} {k : IntKind} {x e : E}, foldMM mkMx k x r = some e → ∀ {us : List Value}, Rel2 (TV.rel Φ ρ β) r us → ∀ w,
    (us.foldlM Builtin.max2 (.int k (x.den Φ ρ).toInt)).run P w = .ok (.int k (e.den Φ ρ).toInt) w
  | [], k, x, e, h, us, hr, w => by
    simp [foldMM] at h; subst h
    cases us with
    | nil => rfl
    | cons _ _ => exact hr.elim
  | y :: r, k, x, e, h, us, hr, w => by
    unfold foldMM at h
    split at h
    · rename_i heq; cases heq
    · rename_i g k' z r' heq
      cases heq
      split at h
      · rename_i hk
        subst hk
        cases us with
        | nil => exact hr.elim
        | cons u us =>
          have hu : u = .int k (z.den Φ ρ).toInt := hr.1
          subst hu
          have := foldMM_max (P := P) h hr.2 w
          rw [mkMx_den] at this
          simp only [List.foldlM_cons, Builtin.max2, pure_bind]
          exact this
      · cases h
    · cases h
theorem foldMM_min {P : Program} : ∀ {r : List TV} {k : IntKind} {x e : E}, foldMM mkMn k x r = some e → ∀ {us : List Value}, Rel2 (TV.rel Φ ρ β) r us → ∀ w,
    (us.foldlM Builtin.min2 (.int k (x.den Φ ρ).toInt)).run P w = .ok (.int k (e.den Φ ρ).toInt) w
  | [], k, x, e, h, us, hr, w => by
    simp [foldMM] at h; subst h
    cases us with
    | nil => rfl
    | cons _ _ => exact hr.elim
  | y :: r, k, x, e, h, us, hr, w => by
    unfold foldMM at h
    split at h
    · rename_i heq; cases heq
    · rename_i g k' z r' heq
      cases heq
      split at h
      · rename_i hk
        subst hk
        cases us with
        | nil => exact hr.elim
        | cons u us =>
          have hu : u = .int k (z.den Φ ρ).toInt := hr.1
          subst hu
          have := foldMM_min (P := P) h hr.2 w
          rw [mkMn_den] at this
          simp only [List.foldlM_cons, Builtin.min2, pure_bind]
          exact this
      · cases h
    · cases h
theorem partA_sound {P : Program} {t : TypeId} {cs : List Cell} {off : Nat} {x : AV} (h : partA P t cs off = some x) {us : List Value} (hr : Rel2 (Cell.rel Φ ρ β) cs us) (w : World) :
    ∃ y, (part t us.toArray off).run P w = .ok y w ∧ x.rel Φ ρ β y := by
  unfold partA at h
  split at h
  · rename_i s ha hs
    split at h
    · rename_i hl
      cases h
      have he : us.toArray.extract off (off + s) = ((us.drop off).take s).toArray := Array.ext' (by rw [extract_toList])
      refine ⟨.agg ((us.drop off).take s).toArray, by simp only [part, Sem.run_bind, aggP_sound ha w, sizeP_sound hs w, Result.andThen_ok, if_true, he]; rfl, _, rfl, ?_⟩
      have hlen := hr.length
      refine Rel2.of_get (by simp [hlen]) fun i c hi => ?_
      have hi' : i < s := by have := (List.getElem?_eq_some_iff.1 hi).1; simp at this; omega
      simp [List.getElem?_take, hi'] at hi
      obtain ⟨y, hy, hy'⟩ := hr.get hi
      refine ⟨y, ?_, hy'⟩
      simpa [List.getElem?_take, hi'] using hy
    · cases h
  · rename_i ha
    split at h
    · rename_i c hc
      split at h
      · cases h
        obtain ⟨y, hy, hy'⟩ := hr.get hc
        exact ⟨y, by simp [part, aggP_sound ha w, hy], hy'⟩
      · cases h
    · cases h
  · cases h
theorem addrOf_sound {P : Program} {fs : Facts} (hf : FactsOk Φ ρ fs) {b o len : Nat} {elem : TypeId} {x : E} {lim : Nat} {needs : List Need} {tv : TV} {eff : Eff} (h : addrOf P fs b o len elem x lim = .ok needs tv eff) :
    ∃ s, sizeP P elem = some s ∧ 0 ≤ (x.den Φ ρ).toInt ∧ (x.den Φ ρ).toInt < len ∧ tv = .ce (.ptr b (o + (x.den Φ ρ).toInt.toNat * s)) ∧ eff = .no := by
  unfold addrOf at h
  split at h
  · rename_i i hi
    have := lit?_sound hf hi
    subst this
    split at h
    · rename_i s hs
      split at h
      · rename_i hc
        cases h
        exact ⟨s, hs, hc.1, hc.2.1, rfl, rfl⟩
      · cases h
    · cases h
  · exfalso
    revert h
    generalize 0 = i
    generalize len = n
    induction n generalizing i with
    | zero => intro h; simp [forkIx] at h
    | succ n ih => intro h; simp only [forkIx] at h; split at h
                   · exact ih _ h
                   · cases h
theorem cells_size {x : AV} (hk : x.cells.all Cell.known = true) {y : Value} (hr : x.rel Φ ρ β y) : x.cells.length = y.cells.size := by
  have := (AV.rel.cells hk hr).length
  simpa using this
theorem buildSlice_run {P : Program} {t e : TypeId} {len s : Nat} {z cs : List Cell} (hu : P.underlying t = some (.slice e)) (hs : sizeP P e = some s) (hz : zeroCells P e = some z) (hc : z.length = s ∧ (0 < len * s ∨ len = 0) ∧ len * s ≤ 1000)
    {parts : List (Nat × AV)} (hfill : fillA (fun i => some (i * s, s)) (rep z len) parts = some cs) {vals : List (Nat × Value)} (hp : Rel2 (PartRel Φ ρ β) parts vals) (w : World) :
    ∃ us : List Value, Rel2 (Cell.rel Φ ρ β) cs us ∧ (Instr.buildSlice t len vals.toArray).run P w = .ok (.slice (some ⟨w.heap.size, 0, none⟩) len len) (w.alloc (.cells us.toArray e)) := by
  obtain ⟨ie, zv, hi, hiz, hzr, _⟩ := zeroCells_sound hz Φ ρ β
  have hse : ie.size = s := by simpa [sizeP, hi] using hs
  have hrep := rep_rel hzr len
  rw [hc.1] at hrep
  obtain ⟨vr, hf1, hf2⟩ := fillA_sound hp hrep hfill
  refine ⟨vr.toList, hf2, ?_⟩
  have h1 : ¬ len * ie.size > 2 ^ 24 := by rw [hse]; have := hc.2.2; omega
  by_cases h0 : len = 0
  · subst h0
    have hz0 : ∀ f : Nat → Value, (Array.range 0).map f = #[] := fun f => Array.ext' (by simp)
    have hf0 : Instr.fill (fun i => some (i * ie.size, ie.size)) #[] vals = some vr := by
      rw [hse]
      rw [Nat.zero_mul, hz0] at hf1
      exact hf1
    simp [Instr.buildSlice, run_underlying hu, sizeOf, typeInfo, hi, hz0, hf0, newRow]
  · have h2 : ¬ len * ie.size = 0 := by rw [hse]; have := hc.2.1; omega
    exact run_buildSlice w t e len vals.toArray vr ie zv hu hi hiz h1 h2 (by rw [hse]; exact hf1)
theorem packCells_rep {k : K} : ∀ {n : Nat} {l : List Sc}, Rel2 K.is (List.replicate n k) l → (∀ s ∈ l, k.is s) ∧ ∀ (i : Nat) (s : Sc), l[i]? = some s → (packCells (List.replicate n k) l)[i]? = some (k.val s)
  | 0, [], _ => ⟨by simp, by simp⟩
  | n + 1, s :: l, h => by
    have h : K.is k s ∧ Rel2 K.is (List.replicate n k) l := h
    obtain ⟨h1, h2⟩ := packCells_rep h.2
    refine ⟨fun x hx => ?_, fun i x hx => ?_⟩
    · rcases List.mem_cons.1 hx with rfl | hx
      · exact h.1
      · exact h1 x hx
    · cases i with
      | zero => simp at hx; subst hx; simp [List.replicate_succ, packCells]
      | succ i => simpa [List.replicate_succ, packCells] using h2 i x (by simpa using hx)
  | 0, _ :: _, h => h.elim
  | n + 1, [], h => h.elim
set_option maxHeartbeats 1000000 in
theorem step_sound (hcon : ∀ f sg, C.con f = some sg → Contract C.P f sg (Φ f)) {fs : Facts} (hf : FactsOk Φ ρ fs) {dst : Option Tmp} {op : Op} {type : TypeId} {pos : String} {after : Array Edge} {guard : Option (Nat × Bool)}
    {vs : List TV} {mem : Option (List Cell)} {id : Nat} {needs : List Need} {tv : TV} {eff : Eff} (h : step C fs op vs mem id = .ok needs tv eff) (hn : ∀ n ∈ needs, n.holds Φ ρ = true)
    (hI : Inv Φ ρ w0 β0 v β a w) (hd : ∀ d, dst = some d → ∃ z, v.tm d = some z) (hvs : Rel2 (TV.rel Φ ρ β) vs (op.operands.toList.map a.eval))
    (hmem : ∀ b off n cs, foot C op vs = some (b, off, n) → mem = some cs → cs.length = n ∧ ∀ i c, cs[i]? = some c → v.cell b (off + i) = some c) (hid : v.ty id = none) :
    Does C Φ ρ w0 β0 β v a w ⟨dst, op, type, pos, after, guard⟩ tv eff := by
  unfold step at h
  split at h
  case h_1 =>  -- move
    cases h
    exact does_no hI hd rfl hvs.1
  case h_2 =>  -- assign
    cases h
    exact does_no hI hd rfl hvs.1
  case h_3 x y z c X Y =>  -- pick
    obtain ⟨hc, hX, hY, _⟩ := hvs
    have hc' : a.eval x = .bool (c.den Φ ρ).toBool := hc
    have hrun : ∀ b : Bool, (c.den Φ ρ).toBool = b → (execOp a.eval (⟨dst, .pick x y z, type, pos, after, guard⟩ : Oper)).run C.P w = .ok (.value (cond b (a.eval y) (a.eval z))) w := by
      intro b hb
      subst hb
      simp only [execOp, hc', asBool, Sem.run_bind, Sem.run_pure, Result.andThen_ok]
      cases (c.den Φ ρ).toBool <;> rfl
    have hres := resolve_sound hf c
    split at h
    · rename_i heq
      cases h
      rw [heq] at hres
      exact does_no hI hd (hrun true hres.symm) hX
    · rename_i heq
      cases h
      rw [heq] at hres
      exact does_no hI hd (hrun false hres.symm) hY
    · split at h
      · split at h
        · rename_i k p k' q hk
          subst hk
          cases h
          refine does_no hI hd (hrun _ hres.symm) ?_
          have hX' : a.eval y = .int k (p.den Φ ρ).toInt := hX
          have hY' : a.eval z = .int k (q.den Φ ρ).toInt := hY
          rw [hX', hY']
          show _ = _
          rw [mkIte_int]
          cases ((resolve fs c).den Φ ρ).toBool <;> rfl
        · cases h
      · cases h
        refine does_no hI hd (hrun _ hres.symm) ?_
        rename_i p q
        have hX' : a.eval y = .bool (p.den Φ ρ).toBool := hX
        have hY' : a.eval z = .bool (q.den Φ ρ).toBool := hY
        rw [hX', hY']
        show _ = _
        rw [mkIte_bool]
        cases ((resolve fs c).den Φ ρ).toBool <;> rfl
      · cases h
  case h_4 t =>  -- alloc
    split at h
    · rename_i z hz
      cases h
      obtain ⟨i, zv, hi, hiz, hzr, _⟩ := zeroCells_sound hz Φ ρ β
      refine does_new hI hd hid hzr (y := .pointer (some ⟨w.heap.size, 0, none⟩)) (ex_v (s := Instr.alloc t true (.tuple #[])) ?_) ⟨_, by simp [Bij.ext_m], rfl⟩
      simp [Instr.alloc, zeroValue, typeInfo, hi, hiz, newVar, newRow]
    · cases h
  case h_5 t x x' =>  -- box
    split at h
    · rename_i hk
      cases h
      obtain ⟨u, hu, hr⟩ := rel1 hvs
      have hu' : a.eval x = u := by simpa [Op.operands] using hu
      subst hu'
      refine does_new hI hd hid (AV.rel.cells hk hr) (y := .pointer (some ⟨w.heap.size, 0, none⟩)) (ex_v (s := Instr.box t (a.eval x)) ?_) ⟨_, by simp [Bij.ext_m], rfl⟩
      simp [Instr.box, newVar, newRow]
    · cases h
  case h_6 t ps =>  -- build
    split at h
    · rename_i avs hav
      split at h
      · rename_i cs hb
        cases h
        obtain ⟨h1, h2⟩ := asAVs_sound hav hvs
        have hops : (Op.build t ps).operands.toList.map a.eval = ps.toList.map fun p => a.eval p.2 := by simp [Op.operands, List.map_map, Function.comp_def]
        rw [hops] at h1
        have hp := parts_rel (is := ps.toList.map (·.1)) (by simp) h1 h2
        obtain ⟨us, hbu, hur⟩ := builtA_sound hb hp
        refine does_no hI hd (y := .agg us.toArray) (ex_v (s := Instr.build t (ps.map fun (i, x) => (i, a.eval x))) (run_build w t _ _ ?_)) ⟨us, rfl, hur⟩
        rw [← hbu]
        congr 1
        rw [Array.toList_map, List.zip_map']
      · cases h
    · cases h
  case h_7 t len ps =>  -- buildSlice
    split at h
    · rename_i e avs hu hav
      split at h
      · rename_i s z hs hz
        split at h
        · rename_i hc
          split at h
          · rename_i cs hfill
            cases h
            obtain ⟨h1, h2⟩ := asAVs_sound hav hvs
            have hops : (Op.buildSlice t len ps).operands.toList.map a.eval = ps.toList.map fun p => a.eval p.2 := by simp [Op.operands, List.map_map, Function.comp_def]
            rw [hops] at h1
            have hp := parts_rel (is := ps.toList.map (·.1)) (by simp) h1 h2
            obtain ⟨us, hf2, hrun⟩ := buildSlice_run hu hs hz hc hfill hp w
            refine does_new hI hd hid hf2 (y := .slice (some ⟨w.heap.size, 0, none⟩) len len) (ex_v ?_) ⟨_, by simp [Bij.ext_m], rfl⟩
            have e : (ps.map fun (i, x) => (i, a.eval x)) = ((ps.toList.map (·.1)).zip (ps.toList.map fun p => a.eval p.2)).toArray := Array.ext' (by rw [Array.toList_map, List.zip_map'])
            rw [e]
            exact hrun
          · cases h
        · cases h
      · cases h
    · cases h
  case h_8 t x b o =>  -- load
    obtain ⟨n, hb, hx⟩ := hvs.1
    have hx' : a.eval x = .pointer (some ⟨n, o, none⟩) := hx
    split at h
    · rename_i cs ha
      cases h
      have hs : ∃ s, sizeP C.P t = some s := by
        unfold aggP at ha
        unfold sizeP
        cases hi : C.P.info? t with
        | some i => exact ⟨_, rfl⟩
        | none => simp [Program.underlying, hi] at ha
      obtain ⟨s, hs⟩ := hs
      obtain ⟨hl, hcell⟩ := hmem b o s cs (by simp [foot, hs]) rfl
      obtain ⟨ys, hr, hra, _⟩ := hI.range hb hcell
      refine does_no hI hd (y := .agg ys.toArray) (ex_v (s := Instr.loadAt t (a.eval x)) ?_) ⟨ys, rfl, hr⟩
      rw [hx']
      exact run_load_row w n o t ys ha (by rw [hs, ← hl, hr.length]) hra
    · rename_i c ha
      split at h
      · rename_i hk
        cases h
        have hs : ∃ s, sizeP C.P t = some s := by
          unfold aggP at ha
          unfold sizeP
          cases hi : C.P.info? t with
          | some i => exact ⟨_, rfl⟩
          | none => simp [Program.underlying, hi] at ha
        obtain ⟨s, hs⟩ := hs
        obtain ⟨hl, hcell⟩ := hmem b o s [c] (by simp [foot, hs]) rfl
        obtain ⟨ys, hr, hra, _⟩ := hI.range hb hcell
        cases ys with
        | nil => exact hr.elim
        | cons y ys =>
          refine does_no hI hd (y := y) (ex_v (s := Instr.loadAt t (a.eval x)) ?_) hr.1
          rw [hx']
          exact run_load_cell w n o t y ha (by simpa using hra 0 y (by simp))
      · cases h
    · cases h
  case h_9 t x y b o x' =>  -- store
    obtain ⟨⟨n, hb, hx⟩, hy, _⟩ := hvs
    have hx' : a.eval x = .pointer (some ⟨n, o, none⟩) := hx
    split at h
    · rename_i old s hs
      split at h
      · rename_i hc
        obtain ⟨hc1, hc2, hk⟩ := hc
        cases h
        obtain ⟨hl, hcell⟩ := hmem b o s old (by simp [foot, hs]) rfl
        have hold : ∀ i, i < x'.cells.length → ∃ c, v.cell b (o + i) = some c := fun i hi => ⟨old[i]'(by omega), hcell i _ (List.getElem?_eq_getElem (by omega))⟩
        obtain ⟨ys, hr, hra, hth⟩ := hI.range hb hcell
        have hcs := AV.rel.cells hk hy
        have hsz := cells_size hk hy
        refine does_wr hI hd hb hold hcs (ex_u (s := Instr.storeAt t (a.eval x) (a.eval y)) ?_)
        rw [hx']
        refine run_store_any w n o t _ (by rw [hs, ← hsz, hc1]) ?_ (Rel2.oneCell hcs hk)
        have := hr.length
        rwa [← this, hc2, ← hc1, hsz] at hth
      · cases h
    · cases h
  case h_10 x b o =>  -- nilCheck
    cases h
    obtain ⟨n, hb, hx⟩ := hvs.1
    have hx' : a.eval x = .pointer (some ⟨n, o, none⟩) := hx
    refine does_no hI hd (y := .pointer (some ⟨n, o, none⟩)) ?_ ⟨n, hb, rfl⟩
    simp [execOp, hx']
  case h_11 op t X Y T x y =>  -- binOp
    obtain ⟨hx, hy, _⟩ := hvs
    obtain ⟨rfl, z, hr, hz⟩ := binA_sound (P := C.P) (w := w) hf h hn hx hy X Y
    exact does_no hI hd (ex_v hr) hz
  case h_12 T X x =>  -- not
    cases h
    have hx : a.eval X = .bool (x.den Φ ρ).toBool := hvs.1
    refine does_no hI hd (y := .bool (!(x.den Φ ρ).toBool)) (ex_v (s := Op.unary .not (a.eval X)) (by rw [hx]; rfl)) (by show _ = _; rw [mkNot_den])
  case h_13 T X k x =>  -- neg
    cases h
    have hx : a.eval X = .int k (x.den Φ ρ).toInt := hvs.1
    refine does_no hI hd (y := .int k (arI .sub k 0 (x.den Φ ρ).toInt)) (ex_v (s := Op.unary .neg (a.eval X)) (by rw [hx]; rfl)) (by show _ = _; rw [mkAr_den]; rfl)
  case h_14 T X k x =>  -- xor
    cases h
    have hx : a.eval X = .int k (x.den Φ ρ).toInt := hvs.1
    refine does_no hI hd (y := .int k (arI .xor k (if k.signed then -1 else k.max) (x.den Φ ρ).toInt)) (ex_v (s := Op.unary .xor (a.eval X)) (by rw [hx]; rfl)) (by show _ = _; rw [mkAr_den]; rfl)
  case h_15 s d X k x =>  -- convert
    split at h
    · rename_i ds k' hs hd'
      cases h
      have hx : a.eval X = .int k (x.den Φ ρ).toInt := hvs.1
      refine does_no hI hd (y := .int k' (k'.wrap (x.den Φ ρ).toInt)) (ex_v (s := convert s d (a.eval X)) ?_) (by show _ = _; rw [mkConv_den])
      rw [hx]
      simp [convert, run_underlying hs, run_underlying hd', Conv.intToInt]
    · cases h
  case h_16 s X f b o =>  -- fieldAddr
    split at h
    · rename_i fields hu
      split at h
      · rename_i fd hfd
        split at h
        · rename_i n hs
          split at h
          · cases h
          · rename_i hn0
            cases h
            obtain ⟨m, hb, hx⟩ := hvs.1
            have hx' : a.eval X = .pointer (some ⟨m, o, none⟩) := hx
            refine does_no hI hd (y := .pointer (some ⟨m, o + fd.offset, none⟩)) (ex_v (s := Instr.fieldAt s (a.eval X) f) ?_) ⟨m, hb, rfl⟩
            rw [hx']
            simp [Instr.fieldAt, run_underlying hu, hfd, Instr.sureAddr, fieldPlace, sizeP_sound hs w, hn0, Addr_add]
        · cases h
      · cases h
    · cases h
  case h_17 t X f cs =>  -- field
    split at h
    · rename_i fields hu
      split at h
      · rename_i fd hfd
        split at h
        · rename_i x hp
          cases h
          obtain ⟨us, hx, hr⟩ := hvs.1
          have hx' : a.eval X = .agg us.toArray := hx
          obtain ⟨y, hy, hyr⟩ := partA_sound hp hr w
          refine does_no hI hd (y := y) (ex_v (s := Instr.field t (a.eval X) f) ?_) hyr
          rw [hx']
          simp [Instr.field, run_underlying hu, hfd, asAgg, hy]
        · cases h
      · cases h
    · cases h
  case h_18 t X I b o k x =>  -- indexAddr, an array's address
    obtain ⟨⟨n, hb, hx⟩, hi, _⟩ := hvs
    have hx' : a.eval X = .pointer (some ⟨n, o, none⟩) := hx
    have hi' : a.eval I = .int k (x.den Φ ρ).toInt := hi
    split at h
    · rename_i len e hu
      obtain ⟨s, hs, h0, h1, rfl, rfl⟩ := addrOf_sound hf h
      refine does_no hI hd (y := .pointer (some ⟨n, o + (x.den Φ ρ).toInt.toNat * s, none⟩)) (ex_v (s := Instr.indexAt t (a.eval X) (a.eval I)) ?_) ⟨n, hb, rfl⟩
      rw [hx', hi']
      simp [Instr.indexAt, run_underlying hu, Instr.sureAddr, asIntOf, h0, h1, sizeP_sound hs w, Addr_add]
    · cases h
  case h_19 t X I b o len cap k x =>  -- indexAddr, a slice
    obtain ⟨⟨n, hb, hx⟩, hi, _⟩ := hvs
    have hx' : a.eval X = .slice (some ⟨n, o, none⟩) len cap := hx
    have hi' : a.eval I = .int k (x.den Φ ρ).toInt := hi
    split at h
    · rename_i e hu
      obtain ⟨s, hs, h0, h1, rfl, rfl⟩ := addrOf_sound hf h
      refine does_no hI hd (y := .pointer (some ⟨n, o + (x.den Φ ρ).toInt.toNat * s, none⟩)) (ex_v (s := Instr.indexAt t (a.eval X) (a.eval I)) ?_) ⟨n, hb, rfl⟩
      rw [hx', hi']
      simp [Instr.indexAt, run_underlying hu, Instr.sureAddr, asIntOf, h0, h1, sizeP_sound hs w, Addr_add]
    · cases h
  case h_20 t X I cs k x =>  -- index
    obtain ⟨⟨us, hx, hr⟩, hi, _⟩ := hvs
    have hx' : a.eval X = .agg us.toArray := hx
    have hi' : a.eval I = .int k (x.den Φ ρ).toInt := hi
    split at h
    · rename_i len e hu
      split at h
      · rename_i i hlit
        have := lit?_sound hf hlit
        split at h
        · rename_i s hs
          split at h
          · rename_i hc
            split at h
            · rename_i y hp
              cases h
              obtain ⟨z, hz, hzr⟩ := partA_sound hp hr w
              refine does_no hI hd (y := z) (ex_v (s := Instr.index t (a.eval X) (a.eval I)) ?_) hzr
              rw [hx', hi', this]
              simp [Instr.index, run_underlying hu, asIntOf, hc.1, hc.2, sizeP_sound hs w, hz]
            · cases h
          · cases h
        · cases h
      · exfalso
        revert h
        generalize 0 = i
        generalize len = n
        induction n generalizing i with
        | zero => intro h; simp [forkIx] at h
        | succ n ih => intro h; simp only [forkIx] at h; split at h
                       · exact ih _ h
                       · cases h
    · cases h
  case h_21 X i xs =>  -- extract
    split at h
    · rename_i x hx
      cases h
      obtain ⟨us, hX, hr⟩ := hvs.1
      have hX' : a.eval X = .tuple us.toArray := hX
      obtain ⟨y, hy, hyr⟩ := hr.get hx
      refine does_no hI hd (y := y) (ex_v (s := Instr.extract (a.eval X) i) ?_) hyr
      rw [hX']
      simp [Instr.extract, hy]
    · cases h
  case h_22 args t x =>  -- len
    obtain ⟨u, hu, hr⟩ := rel1 hvs
    have hargs : args.map a.eval = #[u] := Array.ext' (by simpa [Op.operands, Call.operands] using hu)
    have hrun : ∀ y, (Builtin.len_ #[t] type #[u]).run C.P w = .ok y w → (execOp a.eval (⟨dst, .call { callee := .builtin .len, args := args, argTypes := ⟨[t]⟩ }, type, pos, after, guard⟩ : Oper)).run C.P w = .ok (.value y) w := by
      intro y hy
      simp only [execOp, _root_.Go.resolve, hargs, Sem.run_bind, Sem.run_pure, Result.andThen_ok, invoke, builtin]
      have hy' : (Builtin.len_ { toList := [t] } type #[u]).run C.P w = .ok y w := hy
      simp [hy']
    split at h
    · rename_i e b o n cap ht
      cases h
      obtain ⟨m, hb, hx⟩ := hr
      refine does_no hI hd (hrun (goInt n) ?_) (by show _ = _; rfl)
      rw [hx]
      simp [Builtin.len_, run_underlying ht]
    · rename_i e b n s' ht
      cases h
      obtain ⟨m, cap, hb, hx, _⟩ := hr
      refine does_no hI hd (hrun (goInt n) ?_) (by show _ = _; rfl)
      rw [hx]
      simp [Builtin.len_, run_underlying ht]
    · rename_i e ht
      cases h
      have hx : u = .slice none 0 0 := hr
      refine does_no hI hd (hrun (goInt 0) ?_) (by show _ = _; rfl)
      rw [hx]
      simp [Builtin.len_, run_underlying ht]
    · rename_i n e ht
      cases h
      refine does_no hI hd (hrun (goInt n) ?_) (by show _ = _; rfl)
      cases u <;> simp [Builtin.len_, run_underlying ht]
    · rename_i e ht
      cases h
      have hx : u = .string (e.den Φ ρ).toStr := hr
      refine does_no hI hd (hrun (goInt (e.den Φ ρ).toStr.size) ?_) (by show _ = _; rfl)
      rw [hx]
      simp [Builtin.len_, run_underlying ht]
    · cases h
  case h_23 args argTypes k x r =>  -- max
    split at h
    · rename_i e he
      cases h
      have hops : (Op.call { callee := .builtin .max, args := args, argTypes := argTypes }).operands.toList.map a.eval = args.toList.map a.eval := by simp [Op.operands, Call.operands]
      rw [hops] at hvs
      cases hl : args.toList.map a.eval with
      | nil => rw [hl] at hvs; exact hvs.elim
      | cons u us =>
        rw [hl] at hvs
        obtain ⟨hu, hus⟩ := hvs
        have hu' : u = .int k (x.den Φ ρ).toInt := hu
        refine does_no hI hd (y := .int k (e.den Φ ρ).toInt) ?_ (by show _ = _; rfl)
        have hm : (args.map a.eval).toList = u :: us := by simpa using hl
        simp only [execOp, _root_.Go.resolve, Sem.run_bind, Sem.run_pure, Result.andThen_ok, invoke, builtin, Builtin.max_, hm, hu', foldMM_max he hus w]
    · cases h
  case h_24 args argTypes k x r =>  -- min
    split at h
    · rename_i e he
      cases h
      have hops : (Op.call { callee := .builtin .min, args := args, argTypes := argTypes }).operands.toList.map a.eval = args.toList.map a.eval := by simp [Op.operands, Call.operands]
      rw [hops] at hvs
      cases hl : args.toList.map a.eval with
      | nil => rw [hl] at hvs; exact hvs.elim
      | cons u us =>
        rw [hl] at hvs
        obtain ⟨hu, hus⟩ := hvs
        have hu' : u = .int k (x.den Φ ρ).toInt := hu
        refine does_no hI hd (y := .int k (e.den Φ ρ).toInt) ?_ (by show _ = _; rfl)
        have hm : (args.map a.eval).toList = u :: us := by simpa using hl
        simp only [execOp, _root_.Go.resolve, Sem.run_bind, Sem.run_pure, Result.andThen_ok, invoke, builtin, Builtin.min_, hm, hu', foldMM_min he hus w]
    · cases h
  case h_25 fx args argTypes f r =>  -- a call by contract
    split at h
    · rename_i hil
      split at h
      · rename_i b o n cap
        unfold stepList at h
        split at h
        · rename_i sg cs hsg
          split at h
          · rename_i k hk
            split at h
            · rename_i es hes
              split at h
              · rename_i hcl
                cases h
                obtain ⟨hcl, hn0, hoff⟩ := hcl
                have hops : (Op.call { callee := .value fx, args := args, argTypes := argTypes }).operands.toList.map a.eval = a.eval fx :: args.toList.map a.eval := by simp [Op.operands, Call.operands]
                rw [hops] at hvs
                obtain ⟨hfx, hargs⟩ := hvs
                obtain ⟨caps, hfx', hcaps⟩ := hfx
                obtain ⟨u, hu, hur⟩ := rel1 hargs
                obtain ⟨m, hbm, hum⟩ := hur
                have hum' : u = .slice (some ⟨m, o, none⟩) n cap := hum
                cases caps with
                | cons _ _ => exact hcaps.elim
                | nil =>
                  obtain ⟨hl, hcell⟩ := hmem b o n cs (by simp [foot, hil]) rfl
                  obtain ⟨ys, hyr, hra, _⟩ := hI.range hbm hcell
                  obtain ⟨hp1, hp2, hp3⟩ := flatCells_sound hes hyr
                  have hp1 := hp1 []
                  rw [List.append_nil] at hp1
                  have hpre := hn _ (List.mem_singleton.2 rfl)
                  simp only [Need.holds, dens_listE] at hpre
                  have hlen : (es.map (E.den Φ ρ)).length = n := by simp [hp3]
                  have hC := (hcon f sg hsg).2
                  rw [hoff, hk] at hC
                  simp only at hC
                  obtain ⟨hall, hval⟩ := packCells_rep hp2
                  have hC := hC (es.map (E.den Φ ρ)) w m o cap (hI.gg.mono hI.below) hall (by omega) (fun i s hs => by
                    have hlt := (List.getElem?_eq_some_iff.1 hs).1
                    have := hra i (k.val s) (by rw [hp1]; exact hval i s hs)
                    simpa [Addr_add] using this) hpre
                  rw [hlen] at hC
                  have hres := resTV_sound (Φ := Φ) (ρ := ρ) (β := β) sg f (listE es) (by rw [dens_listE]; exact (hcon f sg hsg).1 _ hpre)
                  rw [dens_listE] at hres
                  unfold callable at hcl
                  cases hfn : C.P.funcs[f]? with
                  | none => simp [hfn] at hcl
                  | some fn =>
                    simp only [hfn, Bool.and_eq_true, Bool.not_eq_true'] at hcl
                    have hne : ¬ fn.name = "runtime.NumGoroutine" := by simpa using hcl.1
                    have hbn : ¬ fn.body = none := by intro hb; rw [hb] at hcl; simp at hcl
                    have harr : args.map a.eval = #[.slice (some ⟨m, o, none⟩) n cap] := Array.ext' (by rw [Array.toList_map, hu, hum'])
                    intro K Q hK
                    have hrun : (execOp a.eval (⟨dst, .call { callee := .value fx, args := args, argTypes := argTypes }, type, pos, after, guard⟩ : Oper)).run C.P w = .ok (.enter f #[.slice (some ⟨m, o, none⟩) n cap]) w := by
                      simp [execOp, _root_.Go.resolve, Deferred.ofValue, hfx', invoke, callFunc, hfn, hne, hbn, harr]
                    unfold Oper.wp
                    rw [hrun]
                    refine hC.mono fun e w' he => ?_
                    obtain ⟨rfl, hb⟩ := he
                    exact hK β _ _ (Bij.le_refl β) ((hI.world hb).put hd hres)
              · cases h
            · cases h
          · cases h
        · cases h
      · cases h
    split at h
    · rename_i hio
      split at h
      · rename_i b o x
        unfold stepOff at h
        split at h
        · rename_i sg hsg
          split at h
          · rename_i n hk
            split at h
            · rename_i i hlit
              split at h
              · rename_i hc
                cases h
                obtain ⟨hcl, h0, h1⟩ := hc
                have hx := lit?_sound hf hlit
                have hops : (Op.call { callee := .value fx, args := args, argTypes := argTypes }).operands.toList.map a.eval = a.eval fx :: args.toList.map a.eval := by simp [Op.operands, Call.operands]
                rw [hops] at hvs
                obtain ⟨hfx, hargs⟩ := hvs
                obtain ⟨caps, hfx', hcaps⟩ := hfx
                obtain ⟨u, u', hu, hur, hur'⟩ := rel2 hargs
                obtain ⟨m, hbm, hum⟩ := hur
                have hum' : u = .pointer (some ⟨m, o, none⟩) := hum
                have hux : u' = .int .i64 (x.den Φ ρ).toInt := hur'
                cases caps with
                | cons _ _ => exact hcaps.elim
                | nil =>
                  have hC := (hcon f sg hsg).2
                  rw [hk] at hC
                  simp only at hC
                  have hC := hC m o i w (hI.gg.mono hI.below) h0 h1
                  unfold callable at hcl
                  cases hfn : C.P.funcs[f]? with
                  | none => simp [hfn] at hcl
                  | some fn =>
                    simp only [hfn, Bool.and_eq_true, Bool.not_eq_true'] at hcl
                    have hne : ¬ fn.name = "runtime.NumGoroutine" := by simpa using hcl.1
                    have hbn : ¬ fn.body = none := by intro hb; rw [hb] at hcl; simp at hcl
                    have harr : args.map a.eval = #[.pointer (some ⟨m, o, none⟩), .int .i64 i] := Array.ext' (by rw [Array.toList_map, hu, hum', hux, hx])
                    intro K Q hK
                    have hrun : (execOp a.eval (⟨dst, .call { callee := .value fx, args := args, argTypes := argTypes }, type, pos, after, guard⟩ : Oper)).run C.P w = .ok (.enter f #[.pointer (some ⟨m, o, none⟩), .int .i64 i]) w := by
                      simp [execOp, _root_.Go.resolve, Deferred.ofValue, hfx', invoke, callFunc, hfn, hne, hbn, harr]
                    unfold Oper.wp
                    rw [hrun]
                    refine hC.mono fun e w' he => ?_
                    obtain ⟨rfl, hb⟩ := he
                    exact hK β _ _ (Bij.le_refl β) ((hI.world hb).put hd ⟨m, hbm, rfl⟩)
              · cases h
            · exfalso
              clear hk
              revert h
              generalize 0 = i
              induction n generalizing i with
              | zero => intro h; simp [forkIx] at h
              | succ n ih => intro h; simp only [forkIx] at h; split at h
                             · exact ih _ h
                             · cases h
          · cases h
        · cases h
      · cases h
    split at h
    · rename_i avs hav
      unfold stepCall at h
      split at h
      · rename_i sg hsg
        split at h
        rotate_left
        · cases h
        rename_i hlst
        split at h
        · rename_i es hes
          cases h
          have hops : (Op.call { callee := .value fx, args := args, argTypes := argTypes }).operands.toList.map a.eval = a.eval fx :: args.toList.map a.eval := by simp [Op.operands, Call.operands]
          rw [hops] at hvs
          obtain ⟨hfx, hargs⟩ := hvs
          obtain ⟨caps, hfx', hcaps⟩ := hfx
          cases caps with
          | cons _ _ => exact hcaps.elim
          | nil =>
            obtain ⟨h1, _⟩ := asAVs_sound hav hargs
            obtain ⟨hp, hcan⟩ := flatAVs_sound hes h1
            have hpre := hn _ (List.mem_singleton.2 rfl)
            simp only [Need.holds, dens_listE] at hpre
            have hC := (hcon f sg hsg).2
            rw [hlst.2, hlst.1] at hC
            have hC := hC _ w (hI.gg.mono hI.below) hcan hpre
            have harr : args.map a.eval = (packs sg.args (es.map (E.den Φ ρ))).toArray := Array.ext' (by simpa using hp)
            have hres := resTV_sound (Φ := Φ) (ρ := ρ) (β := β) sg f (listE es) (by rw [dens_listE]; exact (hcon f sg hsg).1 _ hpre)
            rw [dens_listE] at hres
            by_cases hcl : callable C.P f = true
            · rw [if_pos hcl] at hC
              unfold callable at hcl
              cases hfn : C.P.funcs[f]? with
              | none => simp [hfn] at hcl
              | some fn =>
                simp only [hfn, Bool.and_eq_true, Bool.not_eq_true'] at hcl
                have hne : ¬ fn.name = "runtime.NumGoroutine" := by simpa using hcl.1
                have hbn : ¬ fn.body = none := by intro hb; rw [hb] at hcl; simp at hcl
                intro K Q hK
                have hrun : (execOp a.eval (⟨dst, .call { callee := .value fx, args := args, argTypes := argTypes }, type, pos, after, guard⟩ : Oper)).run C.P w = .ok (.enter f (packs sg.args (es.map (E.den Φ ρ))).toArray) w := by
                  simp [execOp, _root_.Go.resolve, Deferred.ofValue, hfx', invoke, callFunc, hfn, hne, hbn, harr]
                unfold Oper.wp
                rw [hrun]
                refine hC.mono fun e w' he => ?_
                obtain ⟨rfl, hb⟩ := he
                exact hK β _ _ (Bij.le_refl β) ((hI.world hb).put hd hres)
            · rw [if_neg hcl] at hC
              refine does_no hI hd ?_ hres
              simp only [execOp, _root_.Go.resolve, Deferred.ofValue, Sem.run_bind, Sem.run_pure, Result.andThen_ok]
              rw [show a.eval fx = Value.func (.func f) #[] #[] from hfx']
              simp only [Sem.run_pure, Result.andThen_ok, invoke, Array.empty_append, Array.append_empty, harr]
              exact hC
        · cases h
      · cases h
    · cases h
  case h_26 f cs =>  -- makeFunc
    split at h
    · rename_i caps hc
      cases h
      have hcap := capsOf_sound hc hvs
      refine does_no hI hd (y := .func (.func f) #[] (cs.map a.eval)) (by simp [execOp, Instr.makeFunc]) ⟨cs.toList.map a.eval, by rw [show Array.map a.eval cs = (cs.toList.map a.eval).toArray from Array.ext' (by simp)], ?_⟩
      simpa [Op.operands] using hcap
    · cases h
  case h_27 t X I b len s' k x =>  -- indexAddr, a slice that has grown
    obtain ⟨⟨n, cap, hb, hx, _⟩, hi, _⟩ := hvs
    have hx' : a.eval X = .slice (some ⟨n, 0, none⟩) len cap := hx
    have hi' : a.eval I = .int k (x.den Φ ρ).toInt := hi
    split at h
    · rename_i e hu
      obtain ⟨s, hs, h0, h1, rfl, rfl⟩ := addrOf_sound hf h
      refine does_no hI hd (y := .pointer (some ⟨n, 0 + (x.den Φ ρ).toInt.toNat * s, none⟩)) (ex_v (s := Instr.indexAt t (a.eval X) (a.eval I)) ?_) ⟨n, hb, rfl⟩
      rw [hx', hi']
      simp [Instr.indexAt, run_underlying hu, Instr.sureAddr, asIntOf, h0, h1, sizeP_sound hs w, Addr_add]
    · cases h
  case h_28 => cases h
end
end Go.Sx
