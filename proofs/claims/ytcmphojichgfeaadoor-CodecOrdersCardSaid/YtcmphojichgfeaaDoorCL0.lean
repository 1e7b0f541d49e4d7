/- The codec seat: words for the walks by hand. -/
import Derived.Test.YtcmphojichgfeaaDoorCD
namespace Go.Proofs.YtcmphojichgfeaaDoor.QC
open Go.RowKit Go.Proofs.YtcmphojichgfeaaDoorW.PrintWords Go.Proofs.YtcmphojichgfeaaDoorW.PrintLast Go.Proofs.YtcmphojichgfeaaDoorW.PrintMore
set_option linter.unusedVariables false
set_option linter.unusedSimpArgs false
/-- A world behind draws and new blocks. -/
class Lift (W W' : World) : Prop where
  h : Below W.heap.size W W'
instance (W : World) : Lift W W := ⟨Below.refl _ _⟩
instance (W W' : World) (n : Nat) [i : Lift W W'] : Lift W (W'.drewN n) := ⟨pw_below_drewN i.h n⟩
instance (W W' : World) [i : Lift W W'] : Lift W W'.drew := ⟨below_drew i.h⟩
instance (W W' : World) (x : Obj) [i : Lift W W'] : Lift W (W'.alloc x) := ⟨below_alloc i.h x⟩
theorem kL {W W' : World} [i : Lift W W'] {g : Nat} {o : Obj} (h : W.heap[g]? = some o) : W'.heap[g]? = some o := blk_below h i.h
theorem bL {W W' W2 : World} [i : Lift W W'] {g : Nat} {o : Obj} (h : W.heap[g]? = some o) (hb : Below W'.heap.size W' W2) : W2.heap[g]? = some o := blk_below (kL h) hb
theorem lL {W W' : World} [i : Lift W W'] {g : Nat} {o : Obj} (h : W.heap[g]? = some o) : g < W'.heap.size := blk_lt (kL h)
theorem cL {S : Type} {d : Kd S} {W W' : World} [i : Lift W W'] {A : Option Addr} {n : Nat} {l : List S} (h : d.C W A n l) : d.C W' A n l := Kd.C_below h i.h
theorem cbL {S : Type} {d : Kd S} {W W' W2 : World} [i : Lift W W'] {A : Option Addr} {n : Nat} {l : List S} (h : d.C W A n l) (hb : Below W'.heap.size W' W2) : d.C W2 A n l := Kd.C_below (cL h) hb
theorem rL {S : Type} {d : Kd S} {W W' : World} [i : Lift W W'] {e base : Nat} {ok : Nat → Prop} {v : Value} {l : List S} (h : d.R e W base ok v l) : d.R e W' base ok v l := Kd.R_below h i.h
theorem rbL {S : Type} {d : Kd S} {W W' W2 : World} [i : Lift W W'] {e base : Nat} {ok : Nat → Prop} {v : Value} {l : List S} (h : d.R e W base ok v l) (hb : Below W'.heap.size W' W2) : d.R e W2 base ok v l := Kd.R_below (rL h) hb
theorem blL {w W W' : World} [i : Lift W W'] (h : Below w.heap.size w W) : Below w.heap.size w W' := below_step h i.h
theorem bbL {w W W' W2 : World} [i : Lift W W'] (h : Below w.heap.size w W) (hb : Below W'.heap.size W' W2) : Below w.heap.size w W2 := below_step (blL h) hb
/-- A value of the program, as it is handed over. -/
abbrev vV (x : S32) (A : Option Addr) (c : Nat) : Value := .agg #[.int .i64 x.f0, .int .i64 x.f1, .string x.f2, .slice A x.f3.length c]
theorem C_max {S : Type} {d : Kd S} {w : World} {A : Option Addr} {n : Nat} {l : List S} (h : d.C w A n l) : n ≤ 9223372036854775807 := h.2.1
theorem rd_get (l : List S32) (i : Nat) (h : i < l.length) : rd_T32 l (i : Int) = l[i] := by
  unfold rd_T32
  rw [Int.toNat_natCast, List.getD_eq_getElem?_getD, List.getElem?_eq_getElem h, Option.getD_some]
theorem size_mem {x : S32} {l : List S32} (h : x ∈ l) (a b : Int) (c : ByteArray) : SizeOf.sizeOf x < SizeOf.sizeOf (S32.mk a b c l) := by
  have := List.sizeOf_lt_of_mem h
  simp only [S32.mk.sizeOf_spec]
  omega
theorem wrap_i64 {n : Int} (h1 : -9223372036854775808 ≤ n) (h2 : n ≤ 9223372036854775807) : IntKind.i64.wrap n = n := by
  have : IntKind.i64.wrap n = if n % 18446744073709551616 ≥ 9223372036854775808 then n % 18446744073709551616 - 18446744073709551616 else n % 18446744073709551616 := by
    simp [IntKind.wrap, IntKind.signed, IntKind.bits]
  rw [this]
  split <;> omega
theorem wrap_u64 {n : Int} (h1 : 0 ≤ n) (h2 : n ≤ 18446744073709551615) : IntKind.u64.wrap n = n := by
  simp only [IntKind.wrap, IntKind.signed, IntKind.bits, Bool.false_and, Bool.false_eq_true, if_false]
  omega
/-- A call of a function that stands in a place. -/
theorem goesT_ {P : Program} {ops : Array Oper} {Q : Exit → Act → World → Prop} {rest : List Oper} {oi : Oper} {a : Act} {w : World} (N : Option Tmp) (hd : oi.dst = N) (hg : oi.guard = none) {f : FuncId} {fn : Func} {x : Operand} {as_ : Array Operand} {ts : Array TypeId} (hf : P.funcs[f]? = some fn) (hname : (fn.name == "runtime.NumGoroutine") = false) (hb : fn.body.isSome = true) (args : Array Value)
    (hop : oi.op = .call { callee := .value x, args := as_, argTypes := ts }) (hx : a.eval x = .func (.func f) #[] #[]) (hargs : as_.map a.eval = args)
    (h : Calls P f args w fun e w' => ∃ v, e = .returned v ∧ wpList P ops Q rest (a.put N v) w') : wpList P ops Q (oi :: rest) a w := by
  refine wpList_plain hg fun K hK => ?_
  have he := enters_ hf hname hb args w
  have hrun : (execOp a.eval oi).run P w = .ok (.enter f args) w := by
    unfold execOp
    simp [hop, resolve, Deferred.ofValue, invoke, hx, hargs, he]
  unfold Oper.wp
  rw [hrun, Oper.upon_enter]
  refine h.mono fun e w'' hh => ?_
  obtain ⟨v, rfl, hk⟩ := hh
  subst hd
  exact hK _ _ hk
theorem pos_eta (x : S32) : pos x.f0 x.f1 x.f2 x.f3 = posV x := by cases x; rfl
theorem enc_eta (x : S32) : enc x.f0 x.f1 x.f2 x.f3 = encV x := by cases x; rfl
theorem cmp_eta (x y : S32) : cmpV x.f0 x.f1 x.f2 x.f3 y.f0 y.f1 y.f2 y.f3 = cmpS x y := by cases x; cases y; rfl
theorem len0 (l : List S32) : ((l.length : Int) == 0) = decide (l = []) := by
  cases l with
  | nil => rfl
  | cons x l =>
    have : ¬ (((x :: l).length : Int) = 0) := by simp only [List.length_cons]; omega
    simp only [beq_eq_false_iff_ne.mpr this]
    simp
theorem st4_far {w : World} {g g' : Nat} {t : TypeId} {cs : Array Value} (h : w.heap[g']? = some (.cells cs t (0, 0))) (hn : g' ≠ g) (u0 u1 u2 u3 : Value) :
    ((((w.setCell ⟨g, 0, none⟩ u0).setCell ⟨g, 1, none⟩ u1).setCell ⟨g, 2, none⟩ u2).setCell ⟨g, 3, none⟩ u3).heap[g']? = some (.cells cs t (0, 0)) :=
  blk_far (p := ⟨g, 3, none⟩) (blk_far (p := ⟨g, 2, none⟩) (blk_far (p := ⟨g, 1, none⟩) (blk_far (p := ⟨g, 0, none⟩) h hn u0) hn u1) hn u2) hn u3
theorem st4_B {w0 w : World} {g : Nat} (h : Below w0.heap.size w0 w) (hn : w0.heap.size ≤ g) (u0 u1 u2 u3 : Value) :
    Below w0.heap.size w0 ((((w.setCell ⟨g, 0, none⟩ u0).setCell ⟨g, 1, none⟩ u1).setCell ⟨g, 2, none⟩ u2).setCell ⟨g, 3, none⟩ u3) :=
  below_set (below_set (below_set (below_set h hn) hn) hn) hn
end Go.Proofs.YtcmphojichgfeaaDoor.QC
