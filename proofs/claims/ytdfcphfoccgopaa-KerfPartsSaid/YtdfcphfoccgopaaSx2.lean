/- A symbolic executor over the loaded program of a seat: what an abstract state says of the machine's frame and memory. -/
import Derived.Test.YtdfcphfoccgopaaSx1
namespace Go.Sx
open Go.RowKit (Below)

/-! ### Two lists, member by member -/
def Rel2 {α β : Type} (R : α → β → Prop) : List α → List β → Prop
  | [], [] => True
  | a :: asq, b :: bs => R a b ∧ Rel2 R asq bs
  | _, _ => False
theorem Rel2.length {α β : Type} {R : α → β → Prop} : ∀ {asq : List α} {bs : List β}, Rel2 R asq bs → asq.length = bs.length
  | [], [], _ => rfl
  | _ :: _, _ :: _, h => by simp [Rel2.length h.2]
  | [], _ :: _, h => h.elim
  | _ :: _, [], h => h.elim
theorem Rel2.mono {α β : Type} {R R' : α → β → Prop} (hr : ∀ a b, R a b → R' a b) : ∀ {asq : List α} {bs : List β}, Rel2 R asq bs → Rel2 R' asq bs
  | [], [], _ => trivial
  | _ :: _, _ :: _, h => ⟨hr _ _ h.1, Rel2.mono hr h.2⟩
  | [], _ :: _, h => h.elim
  | _ :: _, [], h => h.elim
theorem Rel2.get {α β : Type} {R : α → β → Prop} : ∀ {asq : List α} {bs : List β} (_ : Rel2 R asq bs) {i : Nat} {a : α}, asq[i]? = some a → ∃ b, bs[i]? = some b ∧ R a b
  | [], [], _, _, _, h => by simp at h
  | a :: asq, b :: bs, h, 0, a', ha => by simp at ha; subst ha; exact ⟨b, by simp, h.1⟩
  | a :: asq, b :: bs, h, i + 1, a', ha => by
    simp at ha
    obtain ⟨y, hy, hr⟩ := Rel2.get h.2 ha
    exact ⟨y, by simpa using hy, hr⟩
  | [], _ :: _, h, _, _, _ => h.elim
  | _ :: _, [], h, _, _, _ => h.elim
theorem Rel2.of_get {α β : Type} {R : α → β → Prop} : ∀ {asq : List α} {bs : List β}, asq.length = bs.length → (∀ (i : Nat) (a : α), asq[i]? = some a → ∃ b, bs[i]? = some b ∧ R a b) → Rel2 R asq bs
  | [], [], _, _ => trivial
  | a :: asq, b :: bs, hl, h => by
    refine ⟨?_, Rel2.of_get (by simpa using hl) fun i x hx => ?_⟩
    · obtain ⟨y, hy, hr⟩ := h 0 a (by simp)
      simp at hy
      exact hy ▸ hr
    · simpa using h (i + 1) x (by simpa using hx)
  | [], _ :: _, hl, _ => by simp at hl
  | _ :: _, [], hl, _ => by simp at hl
theorem Rel2.append {α β : Type} {R : α → β → Prop} : ∀ {asq : List α} {bs : List β} {cs : List α} {ds : List β}, Rel2 R asq bs → Rel2 R cs ds → Rel2 R (asq ++ cs) (bs ++ ds)
  | [], [], _, _, _, h => h
  | _ :: _, _ :: _, _, _, h, h' => ⟨h.1, Rel2.append h.2 h'⟩
  | [], _ :: _, _, _, h, _ => h.elim
  | _ :: _, [], _, _, h, _ => h.elim

/-! ### Values -/
/-- Which block of the machine stands for an abstract block, and how many cells it has. -/
structure Bij where
  m : Nat → Option Nat
  sz : Nat → Nat
instance : CoeFun Bij (fun _ => Nat → Option Nat) := ⟨Bij.m⟩
/-- One more block. -/
def Bij.ext (β : Bij) (id n k : Nat) : Bij := ⟨fun b => if b = id then some n else β b, fun b => if b = id then k else β.sz b⟩
theorem Bij.ext_m (β : Bij) (id n k b : Nat) : (β.ext id n k) b = if b = id then some n else β b := rfl
theorem Bij.ext_sz (β : Bij) (id n k b : Nat) : (β.ext id n k).sz b = if b = id then k else β.sz b := rfl
section
variable (Φ : Ctx) (ρ : List Sc) (β : Bij)
def ptrRel (p : Nat × Nat) (v : Value) : Prop := ∃ n, β p.1 = some n ∧ v = .pointer (some ⟨n, p.2, none⟩)
def Cell.rel : Cell → Value → Prop
  | .int k e, v => v = .int k (e.den Φ ρ).toInt
  | .bool e, v => v = .bool (e.den Φ ρ).toBool
  | .str e, v => v = .string (e.den Φ ρ).toStr
  | .ptr b o, v => ptrRel β (b, o) v
  | .nil, v => v = .pointer none
  | .sl b o len cap, v => ∃ n, β b = some n ∧ v = .slice (some ⟨n, o, none⟩) len cap
  | .slnil, v => v = .slice none 0 0
  | .vec b len s, v => ∃ n cap, β b = some n ∧ v = .slice (some ⟨n, 0, none⟩) len cap ∧ len ≤ cap ∧ cap ≤ maxLen ∧ cap * s = β.sz b
  | .fn f caps, v => ∃ vs : List Value, v = .func (.func f) #[] vs.toArray ∧ Rel2 (ptrRel β) caps vs
  | .unk, _ => True
def AV.rel : AV → Value → Prop
  | .c x, v => x.rel Φ ρ β v
  | .agg cs, v => ∃ vs : List Value, v = .agg vs.toArray ∧ Rel2 (Cell.rel Φ ρ β) cs vs
def TV.rel : TV → Value → Prop
  | .av x, v => x.rel Φ ρ β v
  | .tup xs, v => ∃ vs : List Value, v = .tuple vs.toArray ∧ Rel2 (AV.rel Φ ρ β) xs vs
end
section
variable {Φ : Ctx} {ρ : List Sc} {β β' : Bij}
def Bij.le (β β' : Bij) : Prop := ∀ b n, β b = some n → β' b = some n ∧ β'.sz b = β.sz b
theorem ptrRel.mono (h : Bij.le β β') {p : Nat × Nat} {v : Value} (hr : ptrRel β p v) : ptrRel β' p v := let ⟨n, hn, hv⟩ := hr; ⟨n, (h _ _ hn).1, hv⟩
theorem Cell.rel.mono (h : Bij.le β β') {c : Cell} {v : Value} (hr : c.rel Φ ρ β v) : c.rel Φ ρ β' v := by
  cases c with
  | ptr b o => exact ptrRel.mono h hr
  | sl b o l c => obtain ⟨n, hn, hv⟩ := hr; exact ⟨n, (h _ _ hn).1, hv⟩
  | vec b l s => obtain ⟨n, cap, hn, hv, hl, hm, hs⟩ := hr; exact ⟨n, cap, (h _ _ hn).1, hv, hl, hm, by rw [(h _ _ hn).2]; exact hs⟩
  | fn f caps => obtain ⟨vs, hv, hc⟩ := hr; exact ⟨vs, hv, hc.mono fun _ _ => ptrRel.mono h⟩
  | _ => exact hr
theorem AV.rel.mono (h : Bij.le β β') {c : AV} {v : Value} (hr : c.rel Φ ρ β v) : c.rel Φ ρ β' v := by
  cases c with
  | c x => exact Cell.rel.mono h hr
  | agg cs => obtain ⟨vs, hv, hc⟩ := hr; exact ⟨vs, hv, hc.mono fun _ _ => Cell.rel.mono h⟩
theorem TV.rel.mono (h : Bij.le β β') {c : TV} {v : Value} (hr : c.rel Φ ρ β v) : c.rel Φ ρ β' v := by
  cases c with
  | av x => exact AV.rel.mono h hr
  | tup cs => obtain ⟨vs, hv, hc⟩ := hr; exact ⟨vs, hv, hc.mono fun _ _ => AV.rel.mono h⟩
theorem Cell.rel.oneCell {c : Cell} (hk : c.known = true) {v : Value} (hr : c.rel Φ ρ β v) : v.oneCell' = true := by
  cases c with
  | ptr b o => obtain ⟨n, _, rfl⟩ := hr; rfl
  | sl b o l c => obtain ⟨n, _, rfl⟩ := hr; rfl
  | vec b l s => obtain ⟨n, cap, _, rfl, _⟩ := hr; rfl
  | fn f caps => obtain ⟨vs, rfl, _⟩ := hr; rfl
  | unk => simp [Cell.known] at hk
  | _ => rw [show v = _ from hr]; rfl
theorem Cell.rel.cells {c : Cell} (hk : c.known = true) {v : Value} (hr : c.rel Φ ρ β v) : v.cells = #[v] := by
  have := Cell.rel.oneCell hk hr
  cases v <;> first | rfl | simp [Value.oneCell'] at this
/-- An aggregate's or a cell's value: its cells. -/
theorem AV.rel.cells {x : AV} (hk : x.cells.all Cell.known = true) {v : Value} (hr : x.rel Φ ρ β v) : Rel2 (Cell.rel Φ ρ β) x.cells v.cells.toList := by
  cases x with
  | c x =>
    have : x.known = true := by simpa [AV.cells] using hk
    rw [Cell.rel.cells this hr]
    exact ⟨hr, trivial⟩
  | agg cs => obtain ⟨vs, rfl, hc⟩ := hr; simpa [Value.cells, AV.cells] using hc
theorem undef_rel : TV.undef.rel Φ ρ β undef := ⟨[], rfl, trivial⟩
end

/-! ### Views and the invariant -/
structure View where
  tm : Nat → Option TV
  cell : Nat → Nat → Option Cell
  ty : Nat → Option Nat
def viewOf (tm : List TV) (heap : List (Option Blk)) : View := ⟨fun t => tm[t]?, cellV heap, tyV heap⟩
def View.put (v : View) (dst : Option Nat) (x : TV) : View :=
  { v with tm := fun t => if dst = some t then some x else v.tm t }
def View.eff (v : View) : Eff → View
  | .no => v
  | .new id b => { v with cell := fun b' o => if b' = id then b.cells[o]? else v.cell b' o, ty := fun b' => if b' = id then some b.ty else v.ty b' }
  | .wr b o cs => { v with cell := fun b' o' => if b' = b ∧ o ≤ o' ∧ o' < o + cs.length then cs[o' - o]? else v.cell b' o' }

structure Inv (Φ : Ctx) (ρ : List Sc) (w0 : World) (β0 : Bij) (v : View) (β : Bij) (a : Act) (w : World) : Prop where
  tm : ∀ t x, v.tm t = some x → ∃ y, a.tmps[t]? = some y ∧ x.rel Φ ρ β y
  defers : a.defers = []
  ty : ∀ b T, v.ty b = some T → ∃ n cs, β b = some n ∧ w.heap[n]? = some (.cells cs T (0, 0)) ∧ w0.heap.size ≤ n ∧ ∀ o c, v.cell b o = some c → ∃ y, cs[o]? = some y ∧ c.rel Φ ρ β y
  cty : ∀ b o c, v.cell b o = some c → ∃ T, v.ty b = some T
  inj : ∀ b b' n o c o' c', v.cell b o = some c → v.cell b' o' = some c' → β b = some n → β b' = some n → b = b'
  dom : ∀ b n, β b = some n → ∃ T, v.ty b = some T
  ext : Bij.le β0 β
  below : Below w0.heap.size w0 w
  sz : ∀ b n cs T, β b = some n → w.heap[n]? = some (.cells cs T (0, 0)) → β.sz b = cs.size
  gg : GG w0

section
variable {Φ : Ctx} {ρ : List Sc} {w0 : World} {β0 β : Bij} {v : View} {a : Act} {w : World}
theorem Inv.lt (h : Inv Φ ρ w0 β0 v β a w) {b n : Nat} (hb : β b = some n) : n < w.heap.size := by
  obtain ⟨T, hT⟩ := h.dom _ _ hb
  obtain ⟨n', cs, hn, hh, _⟩ := h.ty _ _ hT
  rw [hb] at hn
  cases hn
  exact (Array.getElem?_eq_some_iff.1 hh).1
theorem Inv.put (h : Inv Φ ρ w0 β0 v β a w) {dst : Option Nat} {x : TV} {y : Value} (hd : ∀ d, dst = some d → ∃ z, v.tm d = some z) (hr : x.rel Φ ρ β y) :
    Inv Φ ρ w0 β0 (v.put dst x) β (a.put dst y) w := by
  refine ⟨?_, ?_, h.ty, h.cty, h.inj, h.dom, h.ext, h.below, h.sz, h.gg⟩
  · intro t z hz
    cases dst with
    | none => simp [View.put] at hz; exact h.tm t z hz
    | some d =>
      simp only [View.put, Option.some.injEq] at hz
      by_cases e : d = t
      · subst e
        simp at hz
        subst hz
        obtain ⟨z, hz⟩ := hd d rfl
        obtain ⟨y', hy', _⟩ := h.tm d z hz
        have hlt : d < a.tmps.size := (Array.getElem?_eq_some_iff.1 hy').1
        exact ⟨y, by simp [Act.put, hlt], hr⟩
      · rw [if_neg e] at hz
        obtain ⟨y', hy', hr'⟩ := h.tm t z hz
        exact ⟨y', by simpa [Act.put, Array.getElem?_setIfInBounds, e] using hy', hr'⟩
  · cases dst <;> exact h.defers
theorem Inv.world (h : Inv Φ ρ w0 β0 v β a w) {w' : World} (hb : Below w.heap.size w w') : Inv Φ ρ w0 β0 v β a w' := by
  refine ⟨h.tm, h.defers, ?_, h.cty, h.inj, h.dom, h.ext, h.below.trans (hb.mono h.below.size), ?_, h.gg⟩
  · intro b T hT
    obtain ⟨n, cs, hn, hh, r⟩ := h.ty b T hT
    exact ⟨n, cs, hn, by rw [hb.block n (h.lt hn)]; exact hh, r⟩
  · intro b n cs T hn hh
    rw [hb.block n (h.lt hn)] at hh
    exact h.sz b n cs T hn hh
theorem Inv.new (h : Inv Φ ρ w0 β0 v β a w) {id : Nat} (hid : v.ty id = none) {blk : Blk} {cs : List Value} (hc : Rel2 (Cell.rel Φ ρ β) blk.cells cs) :
    Bij.le β (β.ext id w.heap.size cs.length) ∧
    Inv Φ ρ w0 β0 (v.eff (.new id blk)) (β.ext id w.heap.size cs.length) a (w.alloc (.cells cs.toArray blk.ty)) := by
  have hnone : β id = none := by
    cases hb : β id with
    | none => rfl
    | some n => obtain ⟨T, hT⟩ := h.dom _ _ hb; rw [hid] at hT; cases hT
  have hle : Bij.le β (β.ext id w.heap.size cs.length) := by
    intro b n hb
    by_cases e : b = id
    · subst e; rw [hnone] at hb; cases hb
    · simp [Bij.ext_m, Bij.ext_sz, e, hb]
  refine ⟨hle, ⟨?_, h.defers, ?_, ?_, ?_, ?_, ?_, h.below.alloc h.below.size _, ?_, h.gg⟩⟩
  · intro t x hx
    obtain ⟨y, hy, hr⟩ := h.tm t x hx
    exact ⟨y, hy, hr.mono hle⟩
  · intro b T hT
    by_cases e : b = id
    · subst e
      simp [View.eff] at hT
      subst hT
      refine ⟨w.heap.size, cs.toArray, by simp [Bij.ext_m], by show (w.heap.push _)[w.heap.size]? = _; simp, h.below.size, ?_⟩
      intro o c hoc
      simp [View.eff] at hoc
      obtain ⟨y, hy, hr⟩ := hc.get hoc
      exact ⟨y, by simpa using hy, hr.mono hle⟩
    · simp [View.eff, e] at hT
      obtain ⟨n, cs', hn, hh, hB, hcells⟩ := h.ty b T hT
      refine ⟨n, cs', by simp [Bij.ext_m, e, hn], ?_, hB, ?_⟩
      · rw [Below.heap_alloc _ _ _ (h.lt hn)]; exact hh
      · intro o c hoc
        simp [View.eff, e] at hoc
        obtain ⟨y, hy, hr⟩ := hcells o c hoc
        exact ⟨y, hy, hr.mono hle⟩
  · intro b o c hoc
    by_cases e : b = id
    · exact ⟨blk.ty, by simp [View.eff, e]⟩
    · simp [View.eff, e] at hoc ⊢
      exact h.cty b o c hoc
  · intro b b' n o c o' c' hk hk' hb hb'
    by_cases e : b = id <;> by_cases e' : b' = id
    · rw [e, e']
    · simp [Bij.ext_m, e] at hb
      simp [Bij.ext_m, e'] at hb'
      have := h.lt hb'
      omega
    · simp [Bij.ext_m, e] at hb
      simp [Bij.ext_m, e'] at hb'
      have := h.lt hb
      omega
    · simp [Bij.ext_m, e] at hb
      simp [Bij.ext_m, e'] at hb'
      simp [View.eff, e] at hk
      simp [View.eff, e'] at hk'
      exact h.inj _ _ _ _ _ _ _ hk hk' hb hb'
  · intro b n hb
    by_cases e : b = id
    · exact ⟨blk.ty, by simp [View.eff, e]⟩
    · simp [Bij.ext_m, e] at hb
      simp [View.eff, e]
      exact h.dom _ _ hb
  · exact fun b n hb => ⟨(hle _ _ (h.ext _ _ hb).1).1, by rw [(hle _ _ (h.ext _ _ hb).1).2]; exact (h.ext _ _ hb).2⟩
  · intro b n cs' T hb hh
    by_cases e : b = id
    · subst e
      simp [Bij.ext_m] at hb
      subst hb
      have : (w.heap.push (.cells cs.toArray blk.ty))[w.heap.size]? = some (Obj.cells cs' T (0, 0)) := hh
      simp at this
      rw [← this.1]
      simp [Bij.ext_sz]
    · simp [Bij.ext_m, e] at hb
      rw [Below.heap_alloc _ _ _ (h.lt hb)] at hh
      simp [Bij.ext_sz, e]
      exact h.sz _ _ _ _ hb hh
theorem heap_setCells (b : Nat) : ∀ (vs : List Value) (o : Nat) (w : World) (cs : Array Value) (T : TypeId) (fr : Nat × Nat), w.heap[b]? = some (.cells cs T fr) →
    ∃ cs' : Array Value, (w.setCells b o vs).heap[b]? = some (.cells cs' T fr) ∧ cs'.size = cs.size ∧ ∀ j, cs'[j]? = if o ≤ j ∧ j < o + vs.length ∧ j < cs.size then vs[j - o]? else cs[j]?
  | [], o, w, cs, T, fr, h => ⟨cs, h, rfl, fun j => by rw [if_neg (by simp; omega)]⟩
  | x :: r, o, w, cs, T, fr, h => by
    have h1 : (w.setCell ⟨b, o, none⟩ x).heap[b]? = some (.cells (cs.setIfInBounds o x) T fr) := by
      simp [World.setCell, Array.getElem?_modify, h]
    obtain ⟨cs', h2, hs, h3⟩ := heap_setCells b r (o + 1) (w.setCell ⟨b, o, none⟩ x) _ T fr h1
    refine ⟨cs', h2, by simpa using hs, fun j => ?_⟩
    rw [h3 j]
    by_cases hj : o + 1 ≤ j ∧ j < o + 1 + r.length ∧ j < cs.size
    · rw [if_pos (by simpa using hj), if_pos (by simp; omega), show j - o = (j - (o + 1)) + 1 by omega]
      simp
    · rw [if_neg (by simpa using hj)]
      by_cases e : o = j
      · subst e
        by_cases hlt : o < cs.size
        · rw [if_pos (by simp; omega)]
          simp [hlt]
        · rw [if_neg (by omega)]
          simp [hlt]
      · rw [if_neg (by simp; omega)]
        simp [e]
theorem heap_setCells_ne (b : Nat) : ∀ (vs : List Value) (o : Nat) (w : World) (k : Nat), k ≠ b → (w.setCells b o vs).heap[k]? = w.heap[k]?
  | [], _, _, _, _ => rfl
  | x :: r, o, w, k, h => by rw [World.setCells, heap_setCells_ne b r (o + 1) _ k h, Below.heap_setCell _ _ _ _ h]
theorem below_setCells {B : Nat} {w' : World} (b : Nat) (hb : B ≤ b) : ∀ (vs : List Value) (o : Nat) (w : World), Below B w' w → Below B w' (w.setCells b o vs)
  | [], _, _, h => h
  | x :: r, o, _, h => below_setCells b hb r (o + 1) _ (h.setCell (p := ⟨b, o, none⟩) hb x)
theorem Inv.wr (h : Inv Φ ρ w0 β0 v β a w) {b o n : Nat} {cs : List Cell} {ys : List Value} (hb : β b = some n) (hold : ∀ i, i < cs.length → ∃ c, v.cell b (o + i) = some c) (hc : Rel2 (Cell.rel Φ ρ β) cs ys) :
    Inv Φ ρ w0 β0 (v.eff (.wr b o cs)) β a (w.setCells n o ys) := by
  have hlen := hc.length
  refine ⟨h.tm, h.defers, ?_, ?_, ?_, h.dom, h.ext, ?_, ?_, h.gg⟩
  · intro b' T hT
    obtain ⟨n', cs', hn', hh, hB, hcells⟩ := h.ty b' T hT
    by_cases e : b' = b
    · subst e
      rw [hb] at hn'
      cases hn'
      obtain ⟨cs2, h2, hs, h3⟩ := heap_setCells n ys o w cs' T _ hh
      refine ⟨n, cs2, hb, h2, hB, ?_⟩
      intro o' c hoc
      simp only [View.eff] at hoc
      by_cases hin : o ≤ o' ∧ o' < o + cs.length
      · rw [if_pos (by simpa using hin)] at hoc
        obtain ⟨c0, hc0⟩ := hold (o' - o) (by omega)
        obtain ⟨y0, hy0, _⟩ := hcells _ _ hc0
        have hlt := (Array.getElem?_eq_some_iff.1 hy0).1
        obtain ⟨y, hy, hr⟩ := hc.get hoc
        exact ⟨y, by rw [h3, if_pos (by omega)]; exact hy, hr⟩
      · rw [if_neg (by simpa using hin)] at hoc
        obtain ⟨y, hy, hr⟩ := hcells _ _ hoc
        exact ⟨y, by rw [h3, if_neg (by omega)]; exact hy, hr⟩
    · simp only [View.eff]
      by_cases hnn : n' = n
      · subst hnn
        obtain ⟨cs2, h2, hs, h3⟩ := heap_setCells n' ys o w cs' T _ hh
        refine ⟨n', cs2, hn', h2, hB, ?_⟩
        intro o' c hoc
        rw [if_neg (fun x => e x.1)] at hoc
        have hl : cs.length = 0 := by
          cases hcs : cs.length with
          | zero => rfl
          | succ m =>
            obtain ⟨c0, hc0⟩ := hold 0 (by omega)
            exact absurd (h.inj _ _ _ _ _ _ _ hoc hc0 hn' hb) e
        obtain ⟨y, hy, hr⟩ := hcells _ _ hoc
        exact ⟨y, by rw [h3, if_neg (by omega)]; exact hy, hr⟩
      · refine ⟨n', cs', hn', by rw [heap_setCells_ne _ _ _ _ _ hnn]; exact hh, hB, ?_⟩
        intro o' c hoc
        rw [if_neg (fun x => e x.1)] at hoc
        exact hcells _ _ hoc
  · intro b' o' c hoc
    simp only [View.eff] at hoc ⊢
    by_cases hin : b' = b ∧ o ≤ o' ∧ o' < o + cs.length
    · obtain ⟨c0, hc0⟩ := hold (o' - o) (by omega)
      rw [hin.1]
      exact h.cty _ _ _ hc0
    · rw [if_neg hin] at hoc
      exact h.cty _ _ _ hoc
  · have key : ∀ b' o' c, (v.eff (.wr b o cs)).cell b' o' = some c → ∃ c', v.cell b' o' = some c' := by
      intro b' o' c hoc
      simp only [View.eff] at hoc
      by_cases hin : b' = b ∧ o ≤ o' ∧ o' < o + cs.length
      · obtain ⟨c0, hc0⟩ := hold (o' - o) (by omega)
        exact ⟨c0, by rw [hin.1, show o' = o + (o' - o) by omega]; exact hc0⟩
      · rw [if_neg hin] at hoc
        exact ⟨c, hoc⟩
    intro b1 b2 n' o1 c1 o2 c2 k1 k2 hb1 hb2
    obtain ⟨c1', k1⟩ := key _ _ _ k1
    obtain ⟨c2', k2⟩ := key _ _ _ k2
    exact h.inj _ _ _ _ _ _ _ k1 k2 hb1 hb2
  · obtain ⟨T, hT⟩ := h.dom _ _ hb
    obtain ⟨n', cs', hn', hh, hB, _⟩ := h.ty _ _ hT
    rw [hb] at hn'
    cases hn'
    exact below_setCells n hB _ _ _ h.below
  · intro b1 n1 cs1 T1 hb1 hh1
    by_cases hnn : n1 = n
    · subst hnn
      obtain ⟨T, hT⟩ := h.dom _ _ hb
      obtain ⟨n', cs', hn', hh, hB, _⟩ := h.ty _ _ hT
      rw [hb] at hn'
      cases hn'
      obtain ⟨cs2, h2, hs, h3⟩ := heap_setCells n1 ys o w cs' T _ hh
      rw [h2] at hh1
      cases hh1
      rw [hs]
      exact h.sz _ _ _ _ hb1 hh
    · rw [heap_setCells_ne _ _ _ _ _ hnn] at hh1
      exact h.sz _ _ _ _ hb1 hh1
/-- A block that holds what the view says: its cells may be read. -/
theorem Inv.range (h : Inv Φ ρ w0 β0 v β a w) {b o n : Nat} (hb : β b = some n) {cs : List Cell} (hc : ∀ i c, cs[i]? = some c → v.cell b (o + i) = some c) :
    ∃ ys : List Value, Rel2 (Cell.rel Φ ρ β) cs ys ∧ w.rangeAt n o ys ∧ w.there n o ys.length := by
  obtain ⟨T, hT⟩ := h.dom _ _ hb
  obtain ⟨n', arr, hn', hh, hB, hcells⟩ := h.ty _ _ hT
  rw [hb] at hn'
  cases hn'
  have hcell : ∀ j, w.cell? ⟨n, j, none⟩ = arr[j]? := by intro j; simp [World.cell?, hh]
  have hsz : cs = [] ∨ o + cs.length ≤ arr.size := by
    cases hl : cs.length with
    | zero => left; simpa using hl
    | succ m =>
      right
      have hm : m < cs.length := by omega
      obtain ⟨y, hy, _⟩ := hcells _ _ (hc m _ (List.getElem?_eq_getElem hm))
      have := (Array.getElem?_eq_some_iff.1 hy).1
      omega
  refine ⟨(List.range cs.length).map (fun i => arr[o + i]?.getD undef), ?_, ?_, ?_⟩
  · refine Rel2.of_get (by simp) fun i c hi => ?_
    obtain ⟨y, hy, hr⟩ := hcells _ _ (hc i c hi)
    have hlt : i < cs.length := (List.getElem?_eq_some_iff.1 hi).1
    exact ⟨y, by simp [hlt, hy], hr⟩
  · intro j x hx
    have hlt : j < cs.length := by have := (List.getElem?_eq_some_iff.1 hx).1; simpa using this
    rw [hcell]
    simp [hlt] at hx
    obtain ⟨y, hy, _⟩ := hcells _ _ (hc j _ (List.getElem?_eq_getElem hlt))
    rw [hy] at hx ⊢
    simpa using hx
  · intro j hj
    simp at hj
    rw [hcell]
    obtain ⟨y, hy, _⟩ := hcells _ _ (hc j _ (List.getElem?_eq_getElem hj))
    exact ⟨by simp [hy], by simp [World.frozen?, hh]⟩
end
end Go.Sx
