/- The codec seat: CodecOrders, walked by hand. -/
import Derived.Test.YtcmphojichgfeaaDoorCO1
namespace Go.Proofs.YtcmphojichgfeaaDoor.QC
open Go.RowKit Go.Proofs.YtcmphojichgfeaaDoorW.PrintWords Go.Proofs.YtcmphojichgfeaaDoorW.PrintLast Go.Proofs.YtcmphojichgfeaaDoorW.PrintMore
set_option linter.unusedVariables false
set_option linter.unusedSimpArgs false
attribute [local go_sem] max2_int min2_int max_two min_two
theorem wanted_of {ops : Array Oper} {a : Act} {oi : Oper} {j t : Nat} {b : Bool} (hg : oi.guard = some (j, b)) (hd : (ops[j]?).bind (·.dst) = some t) (hv : a.eval (.tmp t) = .bool b) : Region.wanted oi (yielded ops a.tmps) = true := by
  have h1 : a.tmps[t]? = some (.bool b) := by
    have e : a.tmps[t]?.getD undef = .bool b := (DR.eval_get a t).trans hv
    cases h : a.tmps[t]? with
    | none => rw [h] at e; simp [undef] at e
    | some v => rw [h] at e; simpa using e
  unfold Region.wanted
  rw [hg]
  simp [yielded, hd, h1]
theorem wpOp_runW {P : Program} {ops : Array Oper} {Q : Exit → Act → World → Prop} {i : Nat} {oi : Oper} {a : Act} {w w' : World} {v : Value} {K : Act → World → Prop} (ho : ops[i]? = some oi) (hw : Region.wanted oi (yielded ops a.tmps) = true) (hrun : (execOp a.eval oi).run P w = .ok (.value v) w') (h : K (a.put oi.dst v) w') : wpOp P ops Q i K a w := by
  unfold wpOp
  rw [ho]
  simp only [hw, if_true]
  left
  unfold Oper.wp
  rw [hrun]
  exact h
theorem wpOp_callW {P : Program} {ops : Array Oper} {Q : Exit → Act → World → Prop} {i : Nat} {oi : Oper} {a : Act} {w : World} {K : Act → World → Prop} {as_ : Array Operand} {ts : Array TypeId} (ho : ops[i]? = some oi) (hw : Region.wanted oi (yielded ops a.tmps) = true) {f : FuncId} {fn : Func} (hf : P.funcs[f]? = some fn) (hname : (fn.name == "runtime.NumGoroutine") = false) (hb : fn.body.isSome = true) (args : Array Value)
    (hop : oi.op = .call { callee := .value (.func f), args := as_, argTypes := ts }) (hargs : as_.map a.eval = args) (h : Calls P f args w fun e w'' => ∃ v, e = .returned v ∧ K (a.put oi.dst v) w'') : wpOp P ops Q i K a w := by
  have he := Go.Proofs.YtcmphojichgfeaaDoorW.PrintLast.enters_ hf hname hb args w
  have hrun : (execOp a.eval oi).run P w = .ok (.enter f args) w := by
    unfold execOp
    simp [hop, resolve, Deferred.ofValue, invoke, Act.eval, hargs, he]
  unfold wpOp
  rw [ho]
  simp only [hw, if_true]
  left
  unfold Oper.wp
  rw [hrun, Oper.upon_enter]
  refine h.mono fun e w'' hh => ?_
  obtain ⟨v, rfl, hk⟩ := hh
  exact hk
theorem c4o {W : World} {g : Nat} {t : TypeId} {a b c d : Value} (h : W.heap[g]? = some (.cells #[a, b, c, d] t (0, 0))) : W.cell? ⟨g, 0, none⟩ = some a ∧ W.cell? ⟨g, 1, none⟩ = some b ∧ W.cell? ⟨g, 2, none⟩ = some c ∧ W.cell? ⟨g, 3, none⟩ = some d ∧
    W.frozen? ⟨g, 0, none⟩ = false ∧ W.frozen? ⟨g, 1, none⟩ = false ∧ W.frozen? ⟨g, 2, none⟩ = false ∧ W.frozen? ⟨g, 3, none⟩ = false := c4 h
/-- What is known of a parameter. -/
structure PR (w : World) (a : S24) (A : Option Addr) (c : Nat) : Prop where
  C : Kd.C k24 w A a.f3.length a.f3
  l : a.f3.length ≤ c
theorem PR.below {w w' : World} {a : S24} {A : Option Addr} {c : Nat} (h : PR w a A c) (hb : Below w.heap.size w w') : PR w' a A c := ⟨Kd.C_below h.C hb, h.l⟩
/-- What is known of a value that was handed over. -/
structure YR (w : World) (g : Nat) (x : S32) (A : Option Addr) (c : Nat) : Prop where
  b : w.heap[g]? = some (.cells (CSs x (.slice A x.f3.length c)) 32 (0, 0))
  l : x.f3.length ≤ c
  C : Kd.C k32 w A x.f3.length x.f3
theorem YR.below {w w' : World} {g : Nat} {x : S32} {A : Option Addr} {c : Nat} (h : YR w g x A c) (hb : Below w.heap.size w w') : YR w' g x A c := ⟨blk_below h.b hb, h.l, Kd.C_below h.C hb⟩
theorem cmpCalls {w : World} {x y : S32} {A A' : Option Addr} {c c' : Nat} {r : Int} (hr : cmpS x y = r) (hx : Kd.C k32 w A x.f3.length x.f3) (hlx : x.f3.length ≤ c) (hy : Kd.C k32 w A' y.f3.length y.f3) (hly : y.f3.length ≤ c') :
    Calls Tryd.prog 25 #[AGs x (.slice A x.f3.length c), AGs y (.slice A' y.f3.length c')] w fun e w' => e = .returned (.int .i64 r) ∧ Below w.heap.size w w' :=
  codec_Compare.calls x.f0 x.f1 x.f2 A c x.f3 y.f0 y.f1 y.f2 A' c' y.f3 r w hx hlx hy hly (by rw [codec_Compare.f, cmp_eta, hr])
theorem eqCalls {w : World} {x y : S32} {A A' : Option Addr} {c c' : Nat} {r : Bool} (hr : (cmpS x y == 0) = r) (hx : Kd.C k32 w A x.f3.length x.f3) (hlx : x.f3.length ≤ c) (hy : Kd.C k32 w A' y.f3.length y.f3) (hly : y.f3.length ≤ c') :
    Calls Tryd.prog 24 #[AGs x (.slice A x.f3.length c), AGs y (.slice A' y.f3.length c')] w fun e w' => e = .returned (.bool r) ∧ Below w.heap.size w w' :=
  codec_Equal.calls x.f0 x.f1 x.f2 A c x.f3 y.f0 y.f1 y.f2 A' c' y.f3 r w hx hlx hy hly (by rw [codec_Equal.f, codec_Compare.f, cmp_eta]; simp only [Option.bind_some]; rw [hr])
set_option maxHeartbeats 8000000 in
set_option maxRecDepth 100000 in
theorem ordS (a b c : S24) (Aa Ab Ac : Option Addr) (ca cb cc : Nat) (w : World) (ha : PR w a Aa ca) (hb : PR w b Ab cb) (hc : PR w c Ac cc) (hG : GG w) (ka : Nat) (sa : Bool) (hka : gangsawref02_Small.f ka a.f0 a.f1 a.f2 a.f3 40 = some sa) (kb : Nat) (sb : Bool) (hkb : gangsawref02_Small.f kb b.f0 b.f1 b.f2 b.f3 40 = some sb) (kc : Nat) (sc : Bool) (hkc : gangsawref02_Small.f kc c.f0 c.f1 c.f2 c.f3 40 = some sc) (hs : sa = false ∨ sb = false ∨ sc = false) : Calls Tryd.prog 8 #[.agg #[.int .i64 a.f0, .int .i64 a.f1, .string a.f2, .slice Aa a.f3.length ca], .agg #[.int .i64 b.f0, .int .i64 b.f1, .string b.f2, .slice Ab b.f3.length cb], .agg #[.int .i64 c.f0, .int .i64 c.f1, .string c.f2, .slice Ac c.f3.length cc]] w fun e w' => e = .returned (.bool true) ∧ Below w.heap.size w w' := by
  have Ha := Aside0.mk ha
  have Hb := Aside0.mk hb
  have Hc := Aside0.mk hc
  have HG := Aside0.mk hG
  have HB := Aside0.mk (Below.refl w.heap.size w)
  clear ha hb hc hG
  cases sa with
  | false =>
    go_enter Tryd.func8, Tryd.ntmps8
    go_wp2_with (first | ((with_reducible refine gate_dst (N := 3) rfl ?_); refine box_event ?hg (N := 3) ?hd (cs := #[.int .i64 a.f0, .int .i64 a.f1, .string a.f2, .slice Aa a.f3.length ca]) (t := 24) ?hr ?_; (case hd => rfl); (case hg => rfl); (case hr => first | (go_simp; done) | (go_simp; rfl)); intro g3 hg w1_ hbox hb; skip; have ma_ := Aside0.mk (PR.below (PR.below Ha.out (Lift.h)) hb); have mb_ := Aside0.mk (PR.below (PR.below Hb.out (Lift.h)) hb); have mc_ := Aside0.mk (PR.below (PR.below Hc.out (Lift.h)) hb); have nB_ := Aside0.mk (bbL HB.out hb); clear Ha Hb Hc HB; have Ha := ma_; have Hb := mb_; have Hc := mc_; have HB := nB_; clear nB_  ma_ mb_ mc_; have B_g3 := Aside0.mk hbox; clear hb hbox hg; obtain ⟨hc_g3_0, hc_g3_1, hc_g3_2, hc_g3_3, hf_g3_0, hf_g3_1, hf_g3_2, hf_g3_3⟩ := c4o B_g3.out) | ((with_reducible refine gate_dst (N := 4) rfl ?_); refine box_event ?hg (N := 4) ?hd (cs := #[.int .i64 b.f0, .int .i64 b.f1, .string b.f2, .slice Ab b.f3.length cb]) (t := 24) ?hr ?_; (case hd => rfl); (case hg => rfl); (case hr => first | (go_simp; done) | (go_simp; rfl)); intro g4 hg w2_ hbox hb; (try clear hc_g3_0 hf_g3_0 hc_g3_1 hf_g3_1 hc_g3_2 hf_g3_2 hc_g3_3 hf_g3_3); have n0_ := Aside0.mk (bL B_g3.out hb); have ma_ := Aside0.mk (PR.below (PR.below Ha.out (Lift.h)) hb); have mb_ := Aside0.mk (PR.below (PR.below Hb.out (Lift.h)) hb); have mc_ := Aside0.mk (PR.below (PR.below Hc.out (Lift.h)) hb); have nB_ := Aside0.mk (bbL HB.out hb); clear B_g3 Ha Hb Hc HB; have B_g3 := n0_; have Ha := ma_; have Hb := mb_; have Hc := mc_; have HB := nB_; clear nB_ n0_ ma_ mb_ mc_; have B_g4 := Aside0.mk hbox; clear hb hbox hg; obtain ⟨hc_g3_0, hc_g3_1, hc_g3_2, hc_g3_3, hf_g3_0, hf_g3_1, hf_g3_2, hf_g3_3⟩ := c4o B_g3.out; obtain ⟨hc_g4_0, hc_g4_1, hc_g4_2, hc_g4_3, hf_g4_0, hf_g4_1, hf_g4_2, hf_g4_3⟩ := c4o B_g4.out) | ((with_reducible refine gate_dst (N := 5) rfl ?_); refine box_event ?hg (N := 5) ?hd (cs := #[.int .i64 c.f0, .int .i64 c.f1, .string c.f2, .slice Ac c.f3.length cc]) (t := 24) ?hr ?_; (case hd => rfl); (case hg => rfl); (case hr => first | (go_simp; done) | (go_simp; rfl)); intro g5 hg w3_ hbox hb; (try clear hc_g3_0 hf_g3_0 hc_g3_1 hf_g3_1 hc_g3_2 hf_g3_2 hc_g3_3 hf_g3_3 hc_g4_0 hf_g4_0 hc_g4_1 hf_g4_1 hc_g4_2 hf_g4_2 hc_g4_3 hf_g4_3); have n0_ := Aside0.mk (bL B_g3.out hb); have n1_ := Aside0.mk (bL B_g4.out hb); have ma_ := Aside0.mk (PR.below (PR.below Ha.out (Lift.h)) hb); have mb_ := Aside0.mk (PR.below (PR.below Hb.out (Lift.h)) hb); have mc_ := Aside0.mk (PR.below (PR.below Hc.out (Lift.h)) hb); have nB_ := Aside0.mk (bbL HB.out hb); clear B_g3 B_g4 Ha Hb Hc HB; have B_g3 := n0_; have B_g4 := n1_; have Ha := ma_; have Hb := mb_; have Hc := mc_; have HB := nB_; clear nB_ n0_ n1_ ma_ mb_ mc_; have B_g5 := Aside0.mk hbox; clear hb hbox hg; obtain ⟨hc_g3_0, hc_g3_1, hc_g3_2, hc_g3_3, hf_g3_0, hf_g3_1, hf_g3_2, hf_g3_3⟩ := c4o B_g3.out; obtain ⟨hc_g4_0, hc_g4_1, hc_g4_2, hc_g4_3, hf_g4_0, hf_g4_1, hf_g4_2, hf_g4_3⟩ := c4o B_g4.out; obtain ⟨hc_g5_0, hc_g5_1, hc_g5_2, hc_g5_3, hf_g5_0, hf_g5_1, hf_g5_2, hf_g5_3⟩ := c4o B_g5.out) | ((with_reducible refine gate_dst (N := 10) rfl ?_); (try (refine gate_guard (by rfl) ?_; dsimp only)); refine goesL_ (some 10) rfl rfl Tryd.func11 (by kernel_rfl) rfl #[] rfl (by (try simp only [List.map_toArray, List.map_cons, List.map_nil]); first | done | rfl) ?_; (with_reducible refine (gangsawlaw02_awake.calls true _ (GG.mono HG.out (by exact blL HB.out)) rfl).mono ?_); rintro e w4_ ⟨rfl, hb⟩; refine ⟨_, rfl, ?_⟩; (try clear hc_g3_0 hf_g3_0 hc_g3_1 hf_g3_1 hc_g3_2 hf_g3_2 hc_g3_3 hf_g3_3 hc_g4_0 hf_g4_0 hc_g4_1 hf_g4_1 hc_g4_2 hf_g4_2 hc_g4_3 hf_g4_3 hc_g5_0 hf_g5_0 hc_g5_1 hf_g5_1 hc_g5_2 hf_g5_2 hc_g5_3 hf_g5_3); have n0_ := Aside0.mk (bL B_g3.out hb); have n1_ := Aside0.mk (bL B_g4.out hb); have n2_ := Aside0.mk (bL B_g5.out hb); have ma_ := Aside0.mk (PR.below (PR.below Ha.out (Lift.h)) hb); have mb_ := Aside0.mk (PR.below (PR.below Hb.out (Lift.h)) hb); have mc_ := Aside0.mk (PR.below (PR.below Hc.out (Lift.h)) hb); have nB_ := Aside0.mk (bbL HB.out hb); clear B_g3 B_g4 B_g5 Ha Hb Hc HB; have B_g3 := n0_; have B_g4 := n1_; have B_g5 := n2_; have Ha := ma_; have Hb := mb_; have Hc := mc_; have HB := nB_; clear nB_ n0_ n1_ n2_ ma_ mb_ mc_; clear hb; obtain ⟨hc_g3_0, hc_g3_1, hc_g3_2, hc_g3_3, hf_g3_0, hf_g3_1, hf_g3_2, hf_g3_3⟩ := c4o B_g3.out; obtain ⟨hc_g4_0, hc_g4_1, hc_g4_2, hc_g4_3, hf_g4_0, hf_g4_1, hf_g4_2, hf_g4_3⟩ := c4o B_g4.out; obtain ⟨hc_g5_0, hc_g5_1, hc_g5_2, hc_g5_3, hf_g5_0, hf_g5_1, hf_g5_2, hf_g5_3⟩ := c4o B_g5.out) | ((with_reducible refine gate_dst (N := 13) rfl ?_); (try (refine gate_guard (by rfl) ?_; dsimp only)); refine goesL_ (some 13) rfl rfl Tryd.func12 (by kernel_rfl) rfl #[.agg #[.int .i64 a.f0, .int .i64 a.f1, .string a.f2, .slice Aa a.f3.length ca], .int .i64 40] rfl (by (try simp only [List.map_toArray, List.map_cons, List.map_nil]); first | done | rfl) ?_; (with_reducible refine (gangsawref02_Small.calls ka a.f0 a.f1 a.f2 Aa ca a.f3 40 _ _ (by exact (PR.below Ha.out Lift.h).C) Ha.out.l hka).mono ?_); rintro e w5_ ⟨rfl, hb⟩; refine ⟨_, rfl, ?_⟩; (try clear hc_g3_0 hf_g3_0 hc_g3_1 hf_g3_1 hc_g3_2 hf_g3_2 hc_g3_3 hf_g3_3 hc_g4_0 hf_g4_0 hc_g4_1 hf_g4_1 hc_g4_2 hf_g4_2 hc_g4_3 hf_g4_3 hc_g5_0 hf_g5_0 hc_g5_1 hf_g5_1 hc_g5_2 hf_g5_2 hc_g5_3 hf_g5_3); have n0_ := Aside0.mk (bL B_g3.out hb); have n1_ := Aside0.mk (bL B_g4.out hb); have n2_ := Aside0.mk (bL B_g5.out hb); have ma_ := Aside0.mk (PR.below (PR.below Ha.out (Lift.h)) hb); have mb_ := Aside0.mk (PR.below (PR.below Hb.out (Lift.h)) hb); have mc_ := Aside0.mk (PR.below (PR.below Hc.out (Lift.h)) hb); have nB_ := Aside0.mk (bbL HB.out hb); clear B_g3 B_g4 B_g5 Ha Hb Hc HB; have B_g3 := n0_; have B_g4 := n1_; have B_g5 := n2_; have Ha := ma_; have Hb := mb_; have Hc := mc_; have HB := nB_; clear nB_ n0_ n1_ n2_ ma_ mb_ mc_; clear hb; obtain ⟨hc_g3_0, hc_g3_1, hc_g3_2, hc_g3_3, hf_g3_0, hf_g3_1, hf_g3_2, hf_g3_3⟩ := c4o B_g3.out; obtain ⟨hc_g4_0, hc_g4_1, hc_g4_2, hc_g4_3, hf_g4_0, hf_g4_1, hf_g4_2, hf_g4_3⟩ := c4o B_g4.out; obtain ⟨hc_g5_0, hc_g5_1, hc_g5_2, hc_g5_3, hf_g5_0, hf_g5_1, hf_g5_2, hf_g5_3⟩ := c4o B_g5.out))
    go_ret
    exact ⟨rfl, blL HB.out⟩
  | true =>
    cases sb with
    | false =>
      go_enter Tryd.func8, Tryd.ntmps8
      go_wp2_with (first | ((with_reducible refine gate_dst (N := 3) rfl ?_); refine box_event ?hg (N := 3) ?hd (cs := #[.int .i64 a.f0, .int .i64 a.f1, .string a.f2, .slice Aa a.f3.length ca]) (t := 24) ?hr ?_; (case hd => rfl); (case hg => rfl); (case hr => first | (go_simp; done) | (go_simp; rfl)); intro g3 hg w1_ hbox hb; skip; have ma_ := Aside0.mk (PR.below (PR.below Ha.out (Lift.h)) hb); have mb_ := Aside0.mk (PR.below (PR.below Hb.out (Lift.h)) hb); have mc_ := Aside0.mk (PR.below (PR.below Hc.out (Lift.h)) hb); have nB_ := Aside0.mk (bbL HB.out hb); clear Ha Hb Hc HB; have Ha := ma_; have Hb := mb_; have Hc := mc_; have HB := nB_; clear nB_  ma_ mb_ mc_; have B_g3 := Aside0.mk hbox; clear hb hbox hg; obtain ⟨hc_g3_0, hc_g3_1, hc_g3_2, hc_g3_3, hf_g3_0, hf_g3_1, hf_g3_2, hf_g3_3⟩ := c4o B_g3.out) | ((with_reducible refine gate_dst (N := 4) rfl ?_); refine box_event ?hg (N := 4) ?hd (cs := #[.int .i64 b.f0, .int .i64 b.f1, .string b.f2, .slice Ab b.f3.length cb]) (t := 24) ?hr ?_; (case hd => rfl); (case hg => rfl); (case hr => first | (go_simp; done) | (go_simp; rfl)); intro g4 hg w2_ hbox hb; (try clear hc_g3_0 hf_g3_0 hc_g3_1 hf_g3_1 hc_g3_2 hf_g3_2 hc_g3_3 hf_g3_3); have n0_ := Aside0.mk (bL B_g3.out hb); have ma_ := Aside0.mk (PR.below (PR.below Ha.out (Lift.h)) hb); have mb_ := Aside0.mk (PR.below (PR.below Hb.out (Lift.h)) hb); have mc_ := Aside0.mk (PR.below (PR.below Hc.out (Lift.h)) hb); have nB_ := Aside0.mk (bbL HB.out hb); clear B_g3 Ha Hb Hc HB; have B_g3 := n0_; have Ha := ma_; have Hb := mb_; have Hc := mc_; have HB := nB_; clear nB_ n0_ ma_ mb_ mc_; have B_g4 := Aside0.mk hbox; clear hb hbox hg; obtain ⟨hc_g3_0, hc_g3_1, hc_g3_2, hc_g3_3, hf_g3_0, hf_g3_1, hf_g3_2, hf_g3_3⟩ := c4o B_g3.out; obtain ⟨hc_g4_0, hc_g4_1, hc_g4_2, hc_g4_3, hf_g4_0, hf_g4_1, hf_g4_2, hf_g4_3⟩ := c4o B_g4.out) | ((with_reducible refine gate_dst (N := 5) rfl ?_); refine box_event ?hg (N := 5) ?hd (cs := #[.int .i64 c.f0, .int .i64 c.f1, .string c.f2, .slice Ac c.f3.length cc]) (t := 24) ?hr ?_; (case hd => rfl); (case hg => rfl); (case hr => first | (go_simp; done) | (go_simp; rfl)); intro g5 hg w3_ hbox hb; (try clear hc_g3_0 hf_g3_0 hc_g3_1 hf_g3_1 hc_g3_2 hf_g3_2 hc_g3_3 hf_g3_3 hc_g4_0 hf_g4_0 hc_g4_1 hf_g4_1 hc_g4_2 hf_g4_2 hc_g4_3 hf_g4_3); have n0_ := Aside0.mk (bL B_g3.out hb); have n1_ := Aside0.mk (bL B_g4.out hb); have ma_ := Aside0.mk (PR.below (PR.below Ha.out (Lift.h)) hb); have mb_ := Aside0.mk (PR.below (PR.below Hb.out (Lift.h)) hb); have mc_ := Aside0.mk (PR.below (PR.below Hc.out (Lift.h)) hb); have nB_ := Aside0.mk (bbL HB.out hb); clear B_g3 B_g4 Ha Hb Hc HB; have B_g3 := n0_; have B_g4 := n1_; have Ha := ma_; have Hb := mb_; have Hc := mc_; have HB := nB_; clear nB_ n0_ n1_ ma_ mb_ mc_; have B_g5 := Aside0.mk hbox; clear hb hbox hg; obtain ⟨hc_g3_0, hc_g3_1, hc_g3_2, hc_g3_3, hf_g3_0, hf_g3_1, hf_g3_2, hf_g3_3⟩ := c4o B_g3.out; obtain ⟨hc_g4_0, hc_g4_1, hc_g4_2, hc_g4_3, hf_g4_0, hf_g4_1, hf_g4_2, hf_g4_3⟩ := c4o B_g4.out; obtain ⟨hc_g5_0, hc_g5_1, hc_g5_2, hc_g5_3, hf_g5_0, hf_g5_1, hf_g5_2, hf_g5_3⟩ := c4o B_g5.out) | ((with_reducible refine gate_dst (N := 10) rfl ?_); (try (refine gate_guard (by rfl) ?_; dsimp only)); refine goesL_ (some 10) rfl rfl Tryd.func11 (by kernel_rfl) rfl #[] rfl (by (try simp only [List.map_toArray, List.map_cons, List.map_nil]); first | done | rfl) ?_; (with_reducible refine (gangsawlaw02_awake.calls true _ (GG.mono HG.out (by exact blL HB.out)) rfl).mono ?_); rintro e w4_ ⟨rfl, hb⟩; refine ⟨_, rfl, ?_⟩; (try clear hc_g3_0 hf_g3_0 hc_g3_1 hf_g3_1 hc_g3_2 hf_g3_2 hc_g3_3 hf_g3_3 hc_g4_0 hf_g4_0 hc_g4_1 hf_g4_1 hc_g4_2 hf_g4_2 hc_g4_3 hf_g4_3 hc_g5_0 hf_g5_0 hc_g5_1 hf_g5_1 hc_g5_2 hf_g5_2 hc_g5_3 hf_g5_3); have n0_ := Aside0.mk (bL B_g3.out hb); have n1_ := Aside0.mk (bL B_g4.out hb); have n2_ := Aside0.mk (bL B_g5.out hb); have ma_ := Aside0.mk (PR.below (PR.below Ha.out (Lift.h)) hb); have mb_ := Aside0.mk (PR.below (PR.below Hb.out (Lift.h)) hb); have mc_ := Aside0.mk (PR.below (PR.below Hc.out (Lift.h)) hb); have nB_ := Aside0.mk (bbL HB.out hb); clear B_g3 B_g4 B_g5 Ha Hb Hc HB; have B_g3 := n0_; have B_g4 := n1_; have B_g5 := n2_; have Ha := ma_; have Hb := mb_; have Hc := mc_; have HB := nB_; clear nB_ n0_ n1_ n2_ ma_ mb_ mc_; clear hb; obtain ⟨hc_g3_0, hc_g3_1, hc_g3_2, hc_g3_3, hf_g3_0, hf_g3_1, hf_g3_2, hf_g3_3⟩ := c4o B_g3.out; obtain ⟨hc_g4_0, hc_g4_1, hc_g4_2, hc_g4_3, hf_g4_0, hf_g4_1, hf_g4_2, hf_g4_3⟩ := c4o B_g4.out; obtain ⟨hc_g5_0, hc_g5_1, hc_g5_2, hc_g5_3, hf_g5_0, hf_g5_1, hf_g5_2, hf_g5_3⟩ := c4o B_g5.out) | ((with_reducible refine gate_dst (N := 13) rfl ?_); (try (refine gate_guard (by rfl) ?_; dsimp only)); refine goesL_ (some 13) rfl rfl Tryd.func12 (by kernel_rfl) rfl #[.agg #[.int .i64 a.f0, .int .i64 a.f1, .string a.f2, .slice Aa a.f3.length ca], .int .i64 40] rfl (by (try simp only [List.map_toArray, List.map_cons, List.map_nil]); first | done | rfl) ?_; (with_reducible refine (gangsawref02_Small.calls ka a.f0 a.f1 a.f2 Aa ca a.f3 40 _ _ (by exact (PR.below Ha.out Lift.h).C) Ha.out.l hka).mono ?_); rintro e w5_ ⟨rfl, hb⟩; refine ⟨_, rfl, ?_⟩; (try clear hc_g3_0 hf_g3_0 hc_g3_1 hf_g3_1 hc_g3_2 hf_g3_2 hc_g3_3 hf_g3_3 hc_g4_0 hf_g4_0 hc_g4_1 hf_g4_1 hc_g4_2 hf_g4_2 hc_g4_3 hf_g4_3 hc_g5_0 hf_g5_0 hc_g5_1 hf_g5_1 hc_g5_2 hf_g5_2 hc_g5_3 hf_g5_3); have n0_ := Aside0.mk (bL B_g3.out hb); have n1_ := Aside0.mk (bL B_g4.out hb); have n2_ := Aside0.mk (bL B_g5.out hb); have ma_ := Aside0.mk (PR.below (PR.below Ha.out (Lift.h)) hb); have mb_ := Aside0.mk (PR.below (PR.below Hb.out (Lift.h)) hb); have mc_ := Aside0.mk (PR.below (PR.below Hc.out (Lift.h)) hb); have nB_ := Aside0.mk (bbL HB.out hb); clear B_g3 B_g4 B_g5 Ha Hb Hc HB; have B_g3 := n0_; have B_g4 := n1_; have B_g5 := n2_; have Ha := ma_; have Hb := mb_; have Hc := mc_; have HB := nB_; clear nB_ n0_ n1_ n2_ ma_ mb_ mc_; clear hb; obtain ⟨hc_g3_0, hc_g3_1, hc_g3_2, hc_g3_3, hf_g3_0, hf_g3_1, hf_g3_2, hf_g3_3⟩ := c4o B_g3.out; obtain ⟨hc_g4_0, hc_g4_1, hc_g4_2, hc_g4_3, hf_g4_0, hf_g4_1, hf_g4_2, hf_g4_3⟩ := c4o B_g4.out; obtain ⟨hc_g5_0, hc_g5_1, hc_g5_2, hc_g5_3, hf_g5_0, hf_g5_1, hf_g5_2, hf_g5_3⟩ := c4o B_g5.out) | ((with_reducible refine gate_dst (N := 17) rfl ?_); (try (refine gate_guard (by rfl) ?_; dsimp only)); refine goesL_ (some 17) rfl rfl Tryd.func12 (by kernel_rfl) rfl #[.agg #[.int .i64 b.f0, .int .i64 b.f1, .string b.f2, .slice Ab b.f3.length cb], .int .i64 40] rfl (by (try simp only [List.map_toArray, List.map_cons, List.map_nil]); first | done | rfl) ?_; (with_reducible refine (gangsawref02_Small.calls kb b.f0 b.f1 b.f2 Ab cb b.f3 40 _ _ (by exact (PR.below Hb.out Lift.h).C) Hb.out.l hkb).mono ?_); rintro e w6_ ⟨rfl, hb⟩; refine ⟨_, rfl, ?_⟩; (try clear hc_g3_0 hf_g3_0 hc_g3_1 hf_g3_1 hc_g3_2 hf_g3_2 hc_g3_3 hf_g3_3 hc_g4_0 hf_g4_0 hc_g4_1 hf_g4_1 hc_g4_2 hf_g4_2 hc_g4_3 hf_g4_3 hc_g5_0 hf_g5_0 hc_g5_1 hf_g5_1 hc_g5_2 hf_g5_2 hc_g5_3 hf_g5_3); have n0_ := Aside0.mk (bL B_g3.out hb); have n1_ := Aside0.mk (bL B_g4.out hb); have n2_ := Aside0.mk (bL B_g5.out hb); have ma_ := Aside0.mk (PR.below (PR.below Ha.out (Lift.h)) hb); have mb_ := Aside0.mk (PR.below (PR.below Hb.out (Lift.h)) hb); have mc_ := Aside0.mk (PR.below (PR.below Hc.out (Lift.h)) hb); have nB_ := Aside0.mk (bbL HB.out hb); clear B_g3 B_g4 B_g5 Ha Hb Hc HB; have B_g3 := n0_; have B_g4 := n1_; have B_g5 := n2_; have Ha := ma_; have Hb := mb_; have Hc := mc_; have HB := nB_; clear nB_ n0_ n1_ n2_ ma_ mb_ mc_; clear hb; obtain ⟨hc_g3_0, hc_g3_1, hc_g3_2, hc_g3_3, hf_g3_0, hf_g3_1, hf_g3_2, hf_g3_3⟩ := c4o B_g3.out; obtain ⟨hc_g4_0, hc_g4_1, hc_g4_2, hc_g4_3, hf_g4_0, hf_g4_1, hf_g4_2, hf_g4_3⟩ := c4o B_g4.out; obtain ⟨hc_g5_0, hc_g5_1, hc_g5_2, hc_g5_3, hf_g5_0, hf_g5_1, hf_g5_2, hf_g5_3⟩ := c4o B_g5.out))
      go_ret
      exact ⟨rfl, blL HB.out⟩
    | true =>
      cases sc with
      | false =>
        go_enter Tryd.func8, Tryd.ntmps8
        go_wp2_with (first | ((with_reducible refine gate_dst (N := 3) rfl ?_); refine box_event ?hg (N := 3) ?hd (cs := #[.int .i64 a.f0, .int .i64 a.f1, .string a.f2, .slice Aa a.f3.length ca]) (t := 24) ?hr ?_; (case hd => rfl); (case hg => rfl); (case hr => first | (go_simp; done) | (go_simp; rfl)); intro g3 hg w1_ hbox hb; skip; have ma_ := Aside0.mk (PR.below (PR.below Ha.out (Lift.h)) hb); have mb_ := Aside0.mk (PR.below (PR.below Hb.out (Lift.h)) hb); have mc_ := Aside0.mk (PR.below (PR.below Hc.out (Lift.h)) hb); have nB_ := Aside0.mk (bbL HB.out hb); clear Ha Hb Hc HB; have Ha := ma_; have Hb := mb_; have Hc := mc_; have HB := nB_; clear nB_  ma_ mb_ mc_; have B_g3 := Aside0.mk hbox; clear hb hbox hg; obtain ⟨hc_g3_0, hc_g3_1, hc_g3_2, hc_g3_3, hf_g3_0, hf_g3_1, hf_g3_2, hf_g3_3⟩ := c4o B_g3.out) | ((with_reducible refine gate_dst (N := 4) rfl ?_); refine box_event ?hg (N := 4) ?hd (cs := #[.int .i64 b.f0, .int .i64 b.f1, .string b.f2, .slice Ab b.f3.length cb]) (t := 24) ?hr ?_; (case hd => rfl); (case hg => rfl); (case hr => first | (go_simp; done) | (go_simp; rfl)); intro g4 hg w2_ hbox hb; (try clear hc_g3_0 hf_g3_0 hc_g3_1 hf_g3_1 hc_g3_2 hf_g3_2 hc_g3_3 hf_g3_3); have n0_ := Aside0.mk (bL B_g3.out hb); have ma_ := Aside0.mk (PR.below (PR.below Ha.out (Lift.h)) hb); have mb_ := Aside0.mk (PR.below (PR.below Hb.out (Lift.h)) hb); have mc_ := Aside0.mk (PR.below (PR.below Hc.out (Lift.h)) hb); have nB_ := Aside0.mk (bbL HB.out hb); clear B_g3 Ha Hb Hc HB; have B_g3 := n0_; have Ha := ma_; have Hb := mb_; have Hc := mc_; have HB := nB_; clear nB_ n0_ ma_ mb_ mc_; have B_g4 := Aside0.mk hbox; clear hb hbox hg; obtain ⟨hc_g3_0, hc_g3_1, hc_g3_2, hc_g3_3, hf_g3_0, hf_g3_1, hf_g3_2, hf_g3_3⟩ := c4o B_g3.out; obtain ⟨hc_g4_0, hc_g4_1, hc_g4_2, hc_g4_3, hf_g4_0, hf_g4_1, hf_g4_2, hf_g4_3⟩ := c4o B_g4.out) | ((with_reducible refine gate_dst (N := 5) rfl ?_); refine box_event ?hg (N := 5) ?hd (cs := #[.int .i64 c.f0, .int .i64 c.f1, .string c.f2, .slice Ac c.f3.length cc]) (t := 24) ?hr ?_; (case hd => rfl); (case hg => rfl); (case hr => first | (go_simp; done) | (go_simp; rfl)); intro g5 hg w3_ hbox hb; (try clear hc_g3_0 hf_g3_0 hc_g3_1 hf_g3_1 hc_g3_2 hf_g3_2 hc_g3_3 hf_g3_3 hc_g4_0 hf_g4_0 hc_g4_1 hf_g4_1 hc_g4_2 hf_g4_2 hc_g4_3 hf_g4_3); have n0_ := Aside0.mk (bL B_g3.out hb); have n1_ := Aside0.mk (bL B_g4.out hb); have ma_ := Aside0.mk (PR.below (PR.below Ha.out (Lift.h)) hb); have mb_ := Aside0.mk (PR.below (PR.below Hb.out (Lift.h)) hb); have mc_ := Aside0.mk (PR.below (PR.below Hc.out (Lift.h)) hb); have nB_ := Aside0.mk (bbL HB.out hb); clear B_g3 B_g4 Ha Hb Hc HB; have B_g3 := n0_; have B_g4 := n1_; have Ha := ma_; have Hb := mb_; have Hc := mc_; have HB := nB_; clear nB_ n0_ n1_ ma_ mb_ mc_; have B_g5 := Aside0.mk hbox; clear hb hbox hg; obtain ⟨hc_g3_0, hc_g3_1, hc_g3_2, hc_g3_3, hf_g3_0, hf_g3_1, hf_g3_2, hf_g3_3⟩ := c4o B_g3.out; obtain ⟨hc_g4_0, hc_g4_1, hc_g4_2, hc_g4_3, hf_g4_0, hf_g4_1, hf_g4_2, hf_g4_3⟩ := c4o B_g4.out; obtain ⟨hc_g5_0, hc_g5_1, hc_g5_2, hc_g5_3, hf_g5_0, hf_g5_1, hf_g5_2, hf_g5_3⟩ := c4o B_g5.out) | ((with_reducible refine gate_dst (N := 10) rfl ?_); (try (refine gate_guard (by rfl) ?_; dsimp only)); refine goesL_ (some 10) rfl rfl Tryd.func11 (by kernel_rfl) rfl #[] rfl (by (try simp only [List.map_toArray, List.map_cons, List.map_nil]); first | done | rfl) ?_; (with_reducible refine (gangsawlaw02_awake.calls true _ (GG.mono HG.out (by exact blL HB.out)) rfl).mono ?_); rintro e w4_ ⟨rfl, hb⟩; refine ⟨_, rfl, ?_⟩; (try clear hc_g3_0 hf_g3_0 hc_g3_1 hf_g3_1 hc_g3_2 hf_g3_2 hc_g3_3 hf_g3_3 hc_g4_0 hf_g4_0 hc_g4_1 hf_g4_1 hc_g4_2 hf_g4_2 hc_g4_3 hf_g4_3 hc_g5_0 hf_g5_0 hc_g5_1 hf_g5_1 hc_g5_2 hf_g5_2 hc_g5_3 hf_g5_3); have n0_ := Aside0.mk (bL B_g3.out hb); have n1_ := Aside0.mk (bL B_g4.out hb); have n2_ := Aside0.mk (bL B_g5.out hb); have ma_ := Aside0.mk (PR.below (PR.below Ha.out (Lift.h)) hb); have mb_ := Aside0.mk (PR.below (PR.below Hb.out (Lift.h)) hb); have mc_ := Aside0.mk (PR.below (PR.below Hc.out (Lift.h)) hb); have nB_ := Aside0.mk (bbL HB.out hb); clear B_g3 B_g4 B_g5 Ha Hb Hc HB; have B_g3 := n0_; have B_g4 := n1_; have B_g5 := n2_; have Ha := ma_; have Hb := mb_; have Hc := mc_; have HB := nB_; clear nB_ n0_ n1_ n2_ ma_ mb_ mc_; clear hb; obtain ⟨hc_g3_0, hc_g3_1, hc_g3_2, hc_g3_3, hf_g3_0, hf_g3_1, hf_g3_2, hf_g3_3⟩ := c4o B_g3.out; obtain ⟨hc_g4_0, hc_g4_1, hc_g4_2, hc_g4_3, hf_g4_0, hf_g4_1, hf_g4_2, hf_g4_3⟩ := c4o B_g4.out; obtain ⟨hc_g5_0, hc_g5_1, hc_g5_2, hc_g5_3, hf_g5_0, hf_g5_1, hf_g5_2, hf_g5_3⟩ := c4o B_g5.out) | ((with_reducible refine gate_dst (N := 13) rfl ?_); (try (refine gate_guard (by rfl) ?_; dsimp only)); refine goesL_ (some 13) rfl rfl Tryd.func12 (by kernel_rfl) rfl #[.agg #[.int .i64 a.f0, .int .i64 a.f1, .string a.f2, .slice Aa a.f3.length ca], .int .i64 40] rfl (by (try simp only [List.map_toArray, List.map_cons, List.map_nil]); first | done | rfl) ?_; (with_reducible refine (gangsawref02_Small.calls ka a.f0 a.f1 a.f2 Aa ca a.f3 40 _ _ (by exact (PR.below Ha.out Lift.h).C) Ha.out.l hka).mono ?_); rintro e w5_ ⟨rfl, hb⟩; refine ⟨_, rfl, ?_⟩; (try clear hc_g3_0 hf_g3_0 hc_g3_1 hf_g3_1 hc_g3_2 hf_g3_2 hc_g3_3 hf_g3_3 hc_g4_0 hf_g4_0 hc_g4_1 hf_g4_1 hc_g4_2 hf_g4_2 hc_g4_3 hf_g4_3 hc_g5_0 hf_g5_0 hc_g5_1 hf_g5_1 hc_g5_2 hf_g5_2 hc_g5_3 hf_g5_3); have n0_ := Aside0.mk (bL B_g3.out hb); have n1_ := Aside0.mk (bL B_g4.out hb); have n2_ := Aside0.mk (bL B_g5.out hb); have ma_ := Aside0.mk (PR.below (PR.below Ha.out (Lift.h)) hb); have mb_ := Aside0.mk (PR.below (PR.below Hb.out (Lift.h)) hb); have mc_ := Aside0.mk (PR.below (PR.below Hc.out (Lift.h)) hb); have nB_ := Aside0.mk (bbL HB.out hb); clear B_g3 B_g4 B_g5 Ha Hb Hc HB; have B_g3 := n0_; have B_g4 := n1_; have B_g5 := n2_; have Ha := ma_; have Hb := mb_; have Hc := mc_; have HB := nB_; clear nB_ n0_ n1_ n2_ ma_ mb_ mc_; clear hb; obtain ⟨hc_g3_0, hc_g3_1, hc_g3_2, hc_g3_3, hf_g3_0, hf_g3_1, hf_g3_2, hf_g3_3⟩ := c4o B_g3.out; obtain ⟨hc_g4_0, hc_g4_1, hc_g4_2, hc_g4_3, hf_g4_0, hf_g4_1, hf_g4_2, hf_g4_3⟩ := c4o B_g4.out; obtain ⟨hc_g5_0, hc_g5_1, hc_g5_2, hc_g5_3, hf_g5_0, hf_g5_1, hf_g5_2, hf_g5_3⟩ := c4o B_g5.out) | ((with_reducible refine gate_dst (N := 17) rfl ?_); (try (refine gate_guard (by rfl) ?_; dsimp only)); refine goesL_ (some 17) rfl rfl Tryd.func12 (by kernel_rfl) rfl #[.agg #[.int .i64 b.f0, .int .i64 b.f1, .string b.f2, .slice Ab b.f3.length cb], .int .i64 40] rfl (by (try simp only [List.map_toArray, List.map_cons, List.map_nil]); first | done | rfl) ?_; (with_reducible refine (gangsawref02_Small.calls kb b.f0 b.f1 b.f2 Ab cb b.f3 40 _ _ (by exact (PR.below Hb.out Lift.h).C) Hb.out.l hkb).mono ?_); rintro e w6_ ⟨rfl, hb⟩; refine ⟨_, rfl, ?_⟩; (try clear hc_g3_0 hf_g3_0 hc_g3_1 hf_g3_1 hc_g3_2 hf_g3_2 hc_g3_3 hf_g3_3 hc_g4_0 hf_g4_0 hc_g4_1 hf_g4_1 hc_g4_2 hf_g4_2 hc_g4_3 hf_g4_3 hc_g5_0 hf_g5_0 hc_g5_1 hf_g5_1 hc_g5_2 hf_g5_2 hc_g5_3 hf_g5_3); have n0_ := Aside0.mk (bL B_g3.out hb); have n1_ := Aside0.mk (bL B_g4.out hb); have n2_ := Aside0.mk (bL B_g5.out hb); have ma_ := Aside0.mk (PR.below (PR.below Ha.out (Lift.h)) hb); have mb_ := Aside0.mk (PR.below (PR.below Hb.out (Lift.h)) hb); have mc_ := Aside0.mk (PR.below (PR.below Hc.out (Lift.h)) hb); have nB_ := Aside0.mk (bbL HB.out hb); clear B_g3 B_g4 B_g5 Ha Hb Hc HB; have B_g3 := n0_; have B_g4 := n1_; have B_g5 := n2_; have Ha := ma_; have Hb := mb_; have Hc := mc_; have HB := nB_; clear nB_ n0_ n1_ n2_ ma_ mb_ mc_; clear hb; obtain ⟨hc_g3_0, hc_g3_1, hc_g3_2, hc_g3_3, hf_g3_0, hf_g3_1, hf_g3_2, hf_g3_3⟩ := c4o B_g3.out; obtain ⟨hc_g4_0, hc_g4_1, hc_g4_2, hc_g4_3, hf_g4_0, hf_g4_1, hf_g4_2, hf_g4_3⟩ := c4o B_g4.out; obtain ⟨hc_g5_0, hc_g5_1, hc_g5_2, hc_g5_3, hf_g5_0, hf_g5_1, hf_g5_2, hf_g5_3⟩ := c4o B_g5.out) | ((with_reducible refine gate_dst (N := 22) rfl ?_); (try (refine gate_guard (by rfl) ?_; dsimp only)); refine goesL_ (some 22) rfl rfl Tryd.func12 (by kernel_rfl) rfl #[.agg #[.int .i64 c.f0, .int .i64 c.f1, .string c.f2, .slice Ac c.f3.length cc], .int .i64 40] rfl (by (try simp only [List.map_toArray, List.map_cons, List.map_nil]); first | done | rfl) ?_; (with_reducible refine (gangsawref02_Small.calls kc c.f0 c.f1 c.f2 Ac cc c.f3 40 _ _ (by exact (PR.below Hc.out Lift.h).C) Hc.out.l hkc).mono ?_); rintro e w7_ ⟨rfl, hb⟩; refine ⟨_, rfl, ?_⟩; (try clear hc_g3_0 hf_g3_0 hc_g3_1 hf_g3_1 hc_g3_2 hf_g3_2 hc_g3_3 hf_g3_3 hc_g4_0 hf_g4_0 hc_g4_1 hf_g4_1 hc_g4_2 hf_g4_2 hc_g4_3 hf_g4_3 hc_g5_0 hf_g5_0 hc_g5_1 hf_g5_1 hc_g5_2 hf_g5_2 hc_g5_3 hf_g5_3); have n0_ := Aside0.mk (bL B_g3.out hb); have n1_ := Aside0.mk (bL B_g4.out hb); have n2_ := Aside0.mk (bL B_g5.out hb); have ma_ := Aside0.mk (PR.below (PR.below Ha.out (Lift.h)) hb); have mb_ := Aside0.mk (PR.below (PR.below Hb.out (Lift.h)) hb); have mc_ := Aside0.mk (PR.below (PR.below Hc.out (Lift.h)) hb); have nB_ := Aside0.mk (bbL HB.out hb); clear B_g3 B_g4 B_g5 Ha Hb Hc HB; have B_g3 := n0_; have B_g4 := n1_; have B_g5 := n2_; have Ha := ma_; have Hb := mb_; have Hc := mc_; have HB := nB_; clear nB_ n0_ n1_ n2_ ma_ mb_ mc_; clear hb; obtain ⟨hc_g3_0, hc_g3_1, hc_g3_2, hc_g3_3, hf_g3_0, hf_g3_1, hf_g3_2, hf_g3_3⟩ := c4o B_g3.out; obtain ⟨hc_g4_0, hc_g4_1, hc_g4_2, hc_g4_3, hf_g4_0, hf_g4_1, hf_g4_2, hf_g4_3⟩ := c4o B_g4.out; obtain ⟨hc_g5_0, hc_g5_1, hc_g5_2, hc_g5_3, hf_g5_0, hf_g5_1, hf_g5_2, hf_g5_3⟩ := c4o B_g5.out))
        go_ret
        exact ⟨rfl, blL HB.out⟩
      | true => simp at hs
set_option maxHeartbeats 16000000 in
set_option maxRecDepth 100000 in
theorem ordB (a b c : S24) (Aa Ab Ac : Option Addr) (ca cb cc : Nat) (w : World) (ha : PR w a Aa ca) (hb : PR w b Ab cb) (hc : PR w c Ac cc) (hG : GG w) (ka : Nat) (hka : gangsawref02_Small.f ka a.f0 a.f1 a.f2 a.f3 40 = some true) (kb : Nat) (hkb : gangsawref02_Small.f kb b.f0 b.f1 b.f2 b.f3 40 = some true) (kc : Nat) (hkc : gangsawref02_Small.f kc c.f0 c.f1 c.f2 c.f3 40 = some true) (x : S32) (ya : Nat) (hya : gangsawlaw02_yours.f ya a.f0 a.f1 a.f2 a.f3 = some (x.f0, x.f1, x.f2, x.f3)) (y : S32) (yb : Nat) (hyb : gangsawlaw02_yours.f yb b.f0 b.f1 b.f2 b.f3 = some (y.f0, y.f1, y.f2, y.f3)) (z : S32) (yc : Nat) (hyc : gangsawlaw02_yours.f yc c.f0 c.f1 c.f2 c.f3 = some (z.f0, z.f1, z.f2, z.f3)) : Calls Tryd.prog 8 #[.agg #[.int .i64 a.f0, .int .i64 a.f1, .string a.f2, .slice Aa a.f3.length ca], .agg #[.int .i64 b.f0, .int .i64 b.f1, .string b.f2, .slice Ab b.f3.length cb], .agg #[.int .i64 c.f0, .int .i64 c.f1, .string c.f2, .slice Ac c.f3.length cc]] w fun e w' => e = .returned (.bool true) ∧ Below w.heap.size w w' := by
  have Ha := Aside0.mk ha
  have Hb := Aside0.mk hb
  have Hc := Aside0.mk hc
  have HG := Aside0.mk hG
  have HB := Aside0.mk (Below.refl w.heap.size w)
  clear ha hb hc hG
  go_enter Tryd.func8, Tryd.ntmps8
  go_wp2_with (first | ((with_reducible refine gate_dst (N := 3) rfl ?_); refine box_event ?hg (N := 3) ?hd (cs := #[.int .i64 a.f0, .int .i64 a.f1, .string a.f2, .slice Aa a.f3.length ca]) (t := 24) ?hr ?_; (case hd => rfl); (case hg => rfl); (case hr => first | (go_simp; done) | (go_simp; rfl)); intro g3 hg w1_ hbox hb; skip; have ma_ := Aside0.mk (PR.below (PR.below Ha.out (Lift.h)) hb); have mb_ := Aside0.mk (PR.below (PR.below Hb.out (Lift.h)) hb); have mc_ := Aside0.mk (PR.below (PR.below Hc.out (Lift.h)) hb); have nB_ := Aside0.mk (bbL HB.out hb); clear Ha Hb Hc HB; have Ha := ma_; have Hb := mb_; have Hc := mc_; have HB := nB_; clear nB_  ma_ mb_ mc_; have B_g3 := Aside0.mk hbox; clear hb hbox hg; obtain ⟨hc_g3_0, hc_g3_1, hc_g3_2, hc_g3_3, hf_g3_0, hf_g3_1, hf_g3_2, hf_g3_3⟩ := c4o B_g3.out) | ((with_reducible refine gate_dst (N := 4) rfl ?_); refine box_event ?hg (N := 4) ?hd (cs := #[.int .i64 b.f0, .int .i64 b.f1, .string b.f2, .slice Ab b.f3.length cb]) (t := 24) ?hr ?_; (case hd => rfl); (case hg => rfl); (case hr => first | (go_simp; done) | (go_simp; rfl)); intro g4 hg w2_ hbox hb; (try clear hc_g3_0 hf_g3_0 hc_g3_1 hf_g3_1 hc_g3_2 hf_g3_2 hc_g3_3 hf_g3_3); have n0_ := Aside0.mk (bL B_g3.out hb); have ma_ := Aside0.mk (PR.below (PR.below Ha.out (Lift.h)) hb); have mb_ := Aside0.mk (PR.below (PR.below Hb.out (Lift.h)) hb); have mc_ := Aside0.mk (PR.below (PR.below Hc.out (Lift.h)) hb); have nB_ := Aside0.mk (bbL HB.out hb); clear B_g3 Ha Hb Hc HB; have B_g3 := n0_; have Ha := ma_; have Hb := mb_; have Hc := mc_; have HB := nB_; clear nB_ n0_ ma_ mb_ mc_; have B_g4 := Aside0.mk hbox; clear hb hbox hg; obtain ⟨hc_g3_0, hc_g3_1, hc_g3_2, hc_g3_3, hf_g3_0, hf_g3_1, hf_g3_2, hf_g3_3⟩ := c4o B_g3.out; obtain ⟨hc_g4_0, hc_g4_1, hc_g4_2, hc_g4_3, hf_g4_0, hf_g4_1, hf_g4_2, hf_g4_3⟩ := c4o B_g4.out) | ((with_reducible refine gate_dst (N := 5) rfl ?_); refine box_event ?hg (N := 5) ?hd (cs := #[.int .i64 c.f0, .int .i64 c.f1, .string c.f2, .slice Ac c.f3.length cc]) (t := 24) ?hr ?_; (case hd => rfl); (case hg => rfl); (case hr => first | (go_simp; done) | (go_simp; rfl)); intro g5 hg w3_ hbox hb; (try clear hc_g3_0 hf_g3_0 hc_g3_1 hf_g3_1 hc_g3_2 hf_g3_2 hc_g3_3 hf_g3_3 hc_g4_0 hf_g4_0 hc_g4_1 hf_g4_1 hc_g4_2 hf_g4_2 hc_g4_3 hf_g4_3); have n0_ := Aside0.mk (bL B_g3.out hb); have n1_ := Aside0.mk (bL B_g4.out hb); have ma_ := Aside0.mk (PR.below (PR.below Ha.out (Lift.h)) hb); have mb_ := Aside0.mk (PR.below (PR.below Hb.out (Lift.h)) hb); have mc_ := Aside0.mk (PR.below (PR.below Hc.out (Lift.h)) hb); have nB_ := Aside0.mk (bbL HB.out hb); clear B_g3 B_g4 Ha Hb Hc HB; have B_g3 := n0_; have B_g4 := n1_; have Ha := ma_; have Hb := mb_; have Hc := mc_; have HB := nB_; clear nB_ n0_ n1_ ma_ mb_ mc_; have B_g5 := Aside0.mk hbox; clear hb hbox hg; obtain ⟨hc_g3_0, hc_g3_1, hc_g3_2, hc_g3_3, hf_g3_0, hf_g3_1, hf_g3_2, hf_g3_3⟩ := c4o B_g3.out; obtain ⟨hc_g4_0, hc_g4_1, hc_g4_2, hc_g4_3, hf_g4_0, hf_g4_1, hf_g4_2, hf_g4_3⟩ := c4o B_g4.out; obtain ⟨hc_g5_0, hc_g5_1, hc_g5_2, hc_g5_3, hf_g5_0, hf_g5_1, hf_g5_2, hf_g5_3⟩ := c4o B_g5.out) | ((with_reducible refine gate_dst (N := 10) rfl ?_); (try (refine gate_guard (by rfl) ?_; dsimp only)); refine goesL_ (some 10) rfl rfl Tryd.func11 (by kernel_rfl) rfl #[] rfl (by (try simp only [List.map_toArray, List.map_cons, List.map_nil]); first | done | rfl) ?_; (with_reducible refine (gangsawlaw02_awake.calls true _ (GG.mono HG.out (by exact blL HB.out)) rfl).mono ?_); rintro e w4_ ⟨rfl, hb⟩; refine ⟨_, rfl, ?_⟩; (try clear hc_g3_0 hf_g3_0 hc_g3_1 hf_g3_1 hc_g3_2 hf_g3_2 hc_g3_3 hf_g3_3 hc_g4_0 hf_g4_0 hc_g4_1 hf_g4_1 hc_g4_2 hf_g4_2 hc_g4_3 hf_g4_3 hc_g5_0 hf_g5_0 hc_g5_1 hf_g5_1 hc_g5_2 hf_g5_2 hc_g5_3 hf_g5_3); have n0_ := Aside0.mk (bL B_g3.out hb); have n1_ := Aside0.mk (bL B_g4.out hb); have n2_ := Aside0.mk (bL B_g5.out hb); have ma_ := Aside0.mk (PR.below (PR.below Ha.out (Lift.h)) hb); have mb_ := Aside0.mk (PR.below (PR.below Hb.out (Lift.h)) hb); have mc_ := Aside0.mk (PR.below (PR.below Hc.out (Lift.h)) hb); have nB_ := Aside0.mk (bbL HB.out hb); clear B_g3 B_g4 B_g5 Ha Hb Hc HB; have B_g3 := n0_; have B_g4 := n1_; have B_g5 := n2_; have Ha := ma_; have Hb := mb_; have Hc := mc_; have HB := nB_; clear nB_ n0_ n1_ n2_ ma_ mb_ mc_; clear hb; obtain ⟨hc_g3_0, hc_g3_1, hc_g3_2, hc_g3_3, hf_g3_0, hf_g3_1, hf_g3_2, hf_g3_3⟩ := c4o B_g3.out; obtain ⟨hc_g4_0, hc_g4_1, hc_g4_2, hc_g4_3, hf_g4_0, hf_g4_1, hf_g4_2, hf_g4_3⟩ := c4o B_g4.out; obtain ⟨hc_g5_0, hc_g5_1, hc_g5_2, hc_g5_3, hf_g5_0, hf_g5_1, hf_g5_2, hf_g5_3⟩ := c4o B_g5.out) | ((with_reducible refine gate_dst (N := 13) rfl ?_); (try (refine gate_guard (by rfl) ?_; dsimp only)); refine goesL_ (some 13) rfl rfl Tryd.func12 (by kernel_rfl) rfl #[.agg #[.int .i64 a.f0, .int .i64 a.f1, .string a.f2, .slice Aa a.f3.length ca], .int .i64 40] rfl (by (try simp only [List.map_toArray, List.map_cons, List.map_nil]); first | done | rfl) ?_; (with_reducible refine (gangsawref02_Small.calls ka a.f0 a.f1 a.f2 Aa ca a.f3 40 _ _ (by exact (PR.below Ha.out Lift.h).C) Ha.out.l hka).mono ?_); rintro e w5_ ⟨rfl, hb⟩; refine ⟨_, rfl, ?_⟩; (try clear hc_g3_0 hf_g3_0 hc_g3_1 hf_g3_1 hc_g3_2 hf_g3_2 hc_g3_3 hf_g3_3 hc_g4_0 hf_g4_0 hc_g4_1 hf_g4_1 hc_g4_2 hf_g4_2 hc_g4_3 hf_g4_3 hc_g5_0 hf_g5_0 hc_g5_1 hf_g5_1 hc_g5_2 hf_g5_2 hc_g5_3 hf_g5_3); have n0_ := Aside0.mk (bL B_g3.out hb); have n1_ := Aside0.mk (bL B_g4.out hb); have n2_ := Aside0.mk (bL B_g5.out hb); have ma_ := Aside0.mk (PR.below (PR.below Ha.out (Lift.h)) hb); have mb_ := Aside0.mk (PR.below (PR.below Hb.out (Lift.h)) hb); have mc_ := Aside0.mk (PR.below (PR.below Hc.out (Lift.h)) hb); have nB_ := Aside0.mk (bbL HB.out hb); clear B_g3 B_g4 B_g5 Ha Hb Hc HB; have B_g3 := n0_; have B_g4 := n1_; have B_g5 := n2_; have Ha := ma_; have Hb := mb_; have Hc := mc_; have HB := nB_; clear nB_ n0_ n1_ n2_ ma_ mb_ mc_; clear hb; obtain ⟨hc_g3_0, hc_g3_1, hc_g3_2, hc_g3_3, hf_g3_0, hf_g3_1, hf_g3_2, hf_g3_3⟩ := c4o B_g3.out; obtain ⟨hc_g4_0, hc_g4_1, hc_g4_2, hc_g4_3, hf_g4_0, hf_g4_1, hf_g4_2, hf_g4_3⟩ := c4o B_g4.out; obtain ⟨hc_g5_0, hc_g5_1, hc_g5_2, hc_g5_3, hf_g5_0, hf_g5_1, hf_g5_2, hf_g5_3⟩ := c4o B_g5.out) | ((with_reducible refine gate_dst (N := 17) rfl ?_); (try (refine gate_guard (by rfl) ?_; dsimp only)); refine goesL_ (some 17) rfl rfl Tryd.func12 (by kernel_rfl) rfl #[.agg #[.int .i64 b.f0, .int .i64 b.f1, .string b.f2, .slice Ab b.f3.length cb], .int .i64 40] rfl (by (try simp only [List.map_toArray, List.map_cons, List.map_nil]); first | done | rfl) ?_; (with_reducible refine (gangsawref02_Small.calls kb b.f0 b.f1 b.f2 Ab cb b.f3 40 _ _ (by exact (PR.below Hb.out Lift.h).C) Hb.out.l hkb).mono ?_); rintro e w6_ ⟨rfl, hb⟩; refine ⟨_, rfl, ?_⟩; (try clear hc_g3_0 hf_g3_0 hc_g3_1 hf_g3_1 hc_g3_2 hf_g3_2 hc_g3_3 hf_g3_3 hc_g4_0 hf_g4_0 hc_g4_1 hf_g4_1 hc_g4_2 hf_g4_2 hc_g4_3 hf_g4_3 hc_g5_0 hf_g5_0 hc_g5_1 hf_g5_1 hc_g5_2 hf_g5_2 hc_g5_3 hf_g5_3); have n0_ := Aside0.mk (bL B_g3.out hb); have n1_ := Aside0.mk (bL B_g4.out hb); have n2_ := Aside0.mk (bL B_g5.out hb); have ma_ := Aside0.mk (PR.below (PR.below Ha.out (Lift.h)) hb); have mb_ := Aside0.mk (PR.below (PR.below Hb.out (Lift.h)) hb); have mc_ := Aside0.mk (PR.below (PR.below Hc.out (Lift.h)) hb); have nB_ := Aside0.mk (bbL HB.out hb); clear B_g3 B_g4 B_g5 Ha Hb Hc HB; have B_g3 := n0_; have B_g4 := n1_; have B_g5 := n2_; have Ha := ma_; have Hb := mb_; have Hc := mc_; have HB := nB_; clear nB_ n0_ n1_ n2_ ma_ mb_ mc_; clear hb; obtain ⟨hc_g3_0, hc_g3_1, hc_g3_2, hc_g3_3, hf_g3_0, hf_g3_1, hf_g3_2, hf_g3_3⟩ := c4o B_g3.out; obtain ⟨hc_g4_0, hc_g4_1, hc_g4_2, hc_g4_3, hf_g4_0, hf_g4_1, hf_g4_2, hf_g4_3⟩ := c4o B_g4.out; obtain ⟨hc_g5_0, hc_g5_1, hc_g5_2, hc_g5_3, hf_g5_0, hf_g5_1, hf_g5_2, hf_g5_3⟩ := c4o B_g5.out) | ((with_reducible refine gate_dst (N := 22) rfl ?_); (try (refine gate_guard (by rfl) ?_; dsimp only)); refine goesL_ (some 22) rfl rfl Tryd.func12 (by kernel_rfl) rfl #[.agg #[.int .i64 c.f0, .int .i64 c.f1, .string c.f2, .slice Ac c.f3.length cc], .int .i64 40] rfl (by (try simp only [List.map_toArray, List.map_cons, List.map_nil]); first | done | rfl) ?_; (with_reducible refine (gangsawref02_Small.calls kc c.f0 c.f1 c.f2 Ac cc c.f3 40 _ _ (by exact (PR.below Hc.out Lift.h).C) Hc.out.l hkc).mono ?_); rintro e w7_ ⟨rfl, hb⟩; refine ⟨_, rfl, ?_⟩; (try clear hc_g3_0 hf_g3_0 hc_g3_1 hf_g3_1 hc_g3_2 hf_g3_2 hc_g3_3 hf_g3_3 hc_g4_0 hf_g4_0 hc_g4_1 hf_g4_1 hc_g4_2 hf_g4_2 hc_g4_3 hf_g4_3 hc_g5_0 hf_g5_0 hc_g5_1 hf_g5_1 hc_g5_2 hf_g5_2 hc_g5_3 hf_g5_3); have n0_ := Aside0.mk (bL B_g3.out hb); have n1_ := Aside0.mk (bL B_g4.out hb); have n2_ := Aside0.mk (bL B_g5.out hb); have ma_ := Aside0.mk (PR.below (PR.below Ha.out (Lift.h)) hb); have mb_ := Aside0.mk (PR.below (PR.below Hb.out (Lift.h)) hb); have mc_ := Aside0.mk (PR.below (PR.below Hc.out (Lift.h)) hb); have nB_ := Aside0.mk (bbL HB.out hb); clear B_g3 B_g4 B_g5 Ha Hb Hc HB; have B_g3 := n0_; have B_g4 := n1_; have B_g5 := n2_; have Ha := ma_; have Hb := mb_; have Hc := mc_; have HB := nB_; clear nB_ n0_ n1_ n2_ ma_ mb_ mc_; clear hb; obtain ⟨hc_g3_0, hc_g3_1, hc_g3_2, hc_g3_3, hf_g3_0, hf_g3_1, hf_g3_2, hf_g3_3⟩ := c4o B_g3.out; obtain ⟨hc_g4_0, hc_g4_1, hc_g4_2, hc_g4_3, hf_g4_0, hf_g4_1, hf_g4_2, hf_g4_3⟩ := c4o B_g4.out; obtain ⟨hc_g5_0, hc_g5_1, hc_g5_2, hc_g5_3, hf_g5_0, hf_g5_1, hf_g5_2, hf_g5_3⟩ := c4o B_g5.out))
  (try clear hc_g3_0 hf_g3_0 hc_g3_1 hf_g3_1 hc_g3_2 hf_g3_2 hc_g3_3 hf_g3_3 hc_g4_0 hf_g4_0 hc_g4_1 hf_g4_1 hc_g4_2 hf_g4_2 hc_g4_3 hf_g4_3 hc_g5_0 hf_g5_0 hc_g5_1 hf_g5_1 hc_g5_2 hf_g5_2 hc_g5_3 hf_g5_3)
  refine wp_region_noPanic ?_
  refine DR.wp_region_inv [some 25, some 26, some 27, some 28, some 29, some 30, some 7, some 8, some 9, none, none, none] (J5 (fun e : Nat => if e = 0 then x else if e = 1 then y else z) (fun e : Nat => if e = 0 then (.agg #[.int .i64 a.f0, .int .i64 a.f1, .string a.f2, .slice Aa a.f3.length ca] : Value) else if e = 1 then .agg #[.int .i64 b.f0, .int .i64 b.f1, .string b.f2, .slice Ab b.f3.length cb] else .agg #[.int .i64 c.f0, .int .i64 c.f1, .string c.f2, .slice Ac c.f3.length cc]) w7_) (by kernel_rfl) (by kernel_rfl) (by kernel_rfl) (by kernel_rfl) (fun vals => J5.init (below_drew (Below.refl _ _)) vals) ?step ?fin
  case step =>
    intro jx o_ ls vals a0_ w13 ho hj hpre hS hJ
    have hjlt : jx < 12 := (Array.getElem?_eq_some_iff.1 ho).1
    obtain rfl | rfl | rfl | rfl | rfl | rfl | rfl | rfl | rfl | rfl | rfl | rfl : jx = 0 ∨ jx = 1 ∨ jx = 2 ∨ jx = 3 ∨ jx = 4 ∨ jx = 5 ∨ jx = 6 ∨ jx = 7 ∨ jx = 8 ∨ jx = 9 ∨ jx = 10 ∨ jx = 11 := by clear hpre; omega
    · cases ho
      have e3 : a0_.tmps[3]?.getD undef = .pointer (some ⟨g3, 0, none⟩) := (DR.eval_get a0_ _).trans (hS.out' rfl rfl)
      obtain ⟨hd0, hd1, hd2, hd3, _⟩ := c4o (blk_below B_g3.out hJ.below)
      refine DR.wpOp_run (v := .agg #[.int .i64 a.f0, .int .i64 a.f1, .string a.f2, .slice Aa a.f3.length ca]) (w' := w13) rfl rfl ?_ ⟨_, rfl, J5.load hJ (e := 0) (by omega)⟩
      clear hS hJ hpre
      first | (go_simp; done) | (go_simp; rfl)
    · cases ho
      have p0 : ls 0 = true := hpre { on := 0, ground := Ground.data } (by simp) rfl
      have e25 : a0_.tmps[25]?.getD undef = .agg #[.int .i64 a.f0, .int .i64 a.f1, .string a.f2, .slice Aa a.f3.length ca] := (DR.eval_get a0_ _).trans ((hS.on 0 25 rfl p0).trans (hJ.ld 0 (by omega) p0))
      have E25 := (DR.eval_get a0_ 25).symm.trans e25
      refine DR.wpOp_call rfl rfl Tryd.func14 (by kernel_rfl) rfl #[.agg #[.int .i64 a.f0, .int .i64 a.f1, .string a.f2, .slice Aa a.f3.length ca]] rfl (by simp only [List.map_toArray, List.map_cons, List.map_nil, E25]) ?_
      refine (gangsawlaw02_yours.calls ya a.f0 a.f1 a.f2 Aa ca a.f3 _ _ _ _ w13 (PR.below Ha.out hJ.below).C Ha.out.l hya).mono ?_
      rintro e wc ⟨s, rfl, hv, hb⟩
      exact ⟨_, rfl, _, rfl, J5.call hJ (e := 0) (by omega) hj hv hb⟩
    · cases ho
      have e4 : a0_.tmps[4]?.getD undef = .pointer (some ⟨g4, 0, none⟩) := (DR.eval_get a0_ _).trans (hS.out' rfl rfl)
      obtain ⟨hd0, hd1, hd2, hd3, _⟩ := c4o (blk_below B_g4.out hJ.below)
      refine DR.wpOp_run (v := .agg #[.int .i64 b.f0, .int .i64 b.f1, .string b.f2, .slice Ab b.f3.length cb]) (w' := w13) rfl rfl ?_ ⟨_, rfl, J5.load hJ (e := 1) (by omega)⟩
      clear hS hJ hpre
      first | (go_simp; done) | (go_simp; rfl)
    · cases ho
      have p2 : ls 2 = true := hpre { on := 2, ground := Ground.data } (by simp) rfl
      have e27 : a0_.tmps[27]?.getD undef = .agg #[.int .i64 b.f0, .int .i64 b.f1, .string b.f2, .slice Ab b.f3.length cb] := (DR.eval_get a0_ _).trans ((hS.on 2 27 rfl p2).trans (hJ.ld 1 (by omega) p2))
      have E27 := (DR.eval_get a0_ 27).symm.trans e27
      refine DR.wpOp_call rfl rfl Tryd.func14 (by kernel_rfl) rfl #[.agg #[.int .i64 b.f0, .int .i64 b.f1, .string b.f2, .slice Ab b.f3.length cb]] rfl (by simp only [List.map_toArray, List.map_cons, List.map_nil, E27]) ?_
      refine (gangsawlaw02_yours.calls yb b.f0 b.f1 b.f2 Ab cb b.f3 _ _ _ _ w13 (PR.below Hb.out hJ.below).C Hb.out.l hyb).mono ?_
      rintro e wc ⟨s, rfl, hv, hb⟩
      exact ⟨_, rfl, _, rfl, J5.call hJ (e := 1) (by omega) hj hv hb⟩
    · cases ho
      have e5 : a0_.tmps[5]?.getD undef = .pointer (some ⟨g5, 0, none⟩) := (DR.eval_get a0_ _).trans (hS.out' rfl rfl)
      obtain ⟨hd0, hd1, hd2, hd3, _⟩ := c4o (blk_below B_g5.out hJ.below)
      refine DR.wpOp_run (v := .agg #[.int .i64 c.f0, .int .i64 c.f1, .string c.f2, .slice Ac c.f3.length cc]) (w' := w13) rfl rfl ?_ ⟨_, rfl, J5.load hJ (e := 2) (by omega)⟩
      clear hS hJ hpre
      first | (go_simp; done) | (go_simp; rfl)
    · cases ho
      have p4 : ls 4 = true := hpre { on := 4, ground := Ground.data } (by simp) rfl
      have e29 : a0_.tmps[29]?.getD undef = .agg #[.int .i64 c.f0, .int .i64 c.f1, .string c.f2, .slice Ac c.f3.length cc] := (DR.eval_get a0_ _).trans ((hS.on 4 29 rfl p4).trans (hJ.ld 2 (by omega) p4))
      have E29 := (DR.eval_get a0_ 29).symm.trans e29
      refine DR.wpOp_call rfl rfl Tryd.func14 (by kernel_rfl) rfl #[.agg #[.int .i64 c.f0, .int .i64 c.f1, .string c.f2, .slice Ac c.f3.length cc]] rfl (by simp only [List.map_toArray, List.map_cons, List.map_nil, E29]) ?_
      refine (gangsawlaw02_yours.calls yc c.f0 c.f1 c.f2 Ac cc c.f3 _ _ _ _ w13 (PR.below Hc.out hJ.below).C Hc.out.l hyc).mono ?_
      rintro e wc ⟨s, rfl, hv, hb⟩
      exact ⟨_, rfl, _, rfl, J5.call hJ (e := 2) (by omega) hj hv hb⟩
    · cases ho
      refine DR.wpOp_run (v := PTs w13.heap.size) (w' := w13.alloc (.cells ZEs 32 (0, 0))) rfl rfl ?_ ⟨_, rfl, J5.alloc hJ (e := 0) (by omega) hj⟩
      clear hS hJ hpre
      first | (go_simp; done) | (go_simp; rfl)
    · cases ho
      refine DR.wpOp_run (v := PTs w13.heap.size) (w' := w13.alloc (.cells ZEs 32 (0, 0))) rfl rfl ?_ ⟨_, rfl, J5.alloc hJ (e := 1) (by omega) hj⟩
      clear hS hJ hpre
      first | (go_simp; done) | (go_simp; rfl)
    · cases ho
      refine DR.wpOp_run (v := PTs w13.heap.size) (w' := w13.alloc (.cells ZEs 32 (0, 0))) rfl rfl ?_ ⟨_, rfl, J5.alloc hJ (e := 2) (by omega) hj⟩
      clear hS hJ hpre
      first | (go_simp; done) | (go_simp; rfl)
    · cases ho
      have p1 : ls 1 = true := hpre { on := 1, ground := Ground.data } (by simp) rfl
      have p6 : ls 6 = true := hpre { on := 6, ground := Ground.data } (by simp) rfl
      obtain ⟨g, s, hg, hs, ⟨A, c0, rfl⟩, hcs, hst⟩ := J5.store hJ (e := 0) (by omega) hj p1 p6
      have e26 : a0_.tmps[26]?.getD undef = AGs x (.slice A x.f3.length c0) := (DR.eval_get a0_ _).trans ((hS.on 1 26 rfl p1).trans hs)
      have e7 : a0_.tmps[7]?.getD undef = PTs g := (DR.eval_get a0_ _).trans ((hS.on 6 7 rfl p6).trans hg)
      obtain ⟨hd0, hd1, hd2, hd3, hf0, hf1, hf2, hf3⟩ := c4o hcs
      refine DR.wpOp_skip (w' := ((((w13.setCell ⟨g, 0, none⟩ (.int .i64 x.f0)).setCell ⟨g, 1, none⟩ (.int .i64 x.f1)).setCell ⟨g, 2, none⟩ (.string x.f2)).setCell ⟨g, 3, none⟩ (.slice A x.f3.length c0))) rfl rfl ?_ ⟨_, rfl, hst _⟩
      clear hS hJ hpre hst hs hg hcs
      first | (go_simp; done) | (go_simp; rfl)
    · cases ho
      have p3 : ls 3 = true := hpre { on := 3, ground := Ground.data } (by simp) rfl
      have p7 : ls 7 = true := hpre { on := 7, ground := Ground.data } (by simp) rfl
      obtain ⟨g, s, hg, hs, ⟨A, c0, rfl⟩, hcs, hst⟩ := J5.store hJ (e := 1) (by omega) hj p3 p7
      have e28 : a0_.tmps[28]?.getD undef = AGs y (.slice A y.f3.length c0) := (DR.eval_get a0_ _).trans ((hS.on 3 28 rfl p3).trans hs)
      have e8 : a0_.tmps[8]?.getD undef = PTs g := (DR.eval_get a0_ _).trans ((hS.on 7 8 rfl p7).trans hg)
      obtain ⟨hd0, hd1, hd2, hd3, hf0, hf1, hf2, hf3⟩ := c4o hcs
      refine DR.wpOp_skip (w' := ((((w13.setCell ⟨g, 0, none⟩ (.int .i64 y.f0)).setCell ⟨g, 1, none⟩ (.int .i64 y.f1)).setCell ⟨g, 2, none⟩ (.string y.f2)).setCell ⟨g, 3, none⟩ (.slice A y.f3.length c0))) rfl rfl ?_ ⟨_, rfl, hst _⟩
      clear hS hJ hpre hst hs hg hcs
      first | (go_simp; done) | (go_simp; rfl)
    · cases ho
      have p5 : ls 5 = true := hpre { on := 5, ground := Ground.data } (by simp) rfl
      have p8 : ls 8 = true := hpre { on := 8, ground := Ground.data } (by simp) rfl
      obtain ⟨g, s, hg, hs, ⟨A, c0, rfl⟩, hcs, hst⟩ := J5.store hJ (e := 2) (by omega) hj p5 p8
      have e30 : a0_.tmps[30]?.getD undef = AGs z (.slice A z.f3.length c0) := (DR.eval_get a0_ _).trans ((hS.on 5 30 rfl p5).trans hs)
      have e9 : a0_.tmps[9]?.getD undef = PTs g := (DR.eval_get a0_ _).trans ((hS.on 8 9 rfl p8).trans hg)
      obtain ⟨hd0, hd1, hd2, hd3, hf0, hf1, hf2, hf3⟩ := c4o hcs
      refine DR.wpOp_skip (w' := ((((w13.setCell ⟨g, 0, none⟩ (.int .i64 z.f0)).setCell ⟨g, 1, none⟩ (.int .i64 z.f1)).setCell ⟨g, 2, none⟩ (.string z.f2)).setCell ⟨g, 3, none⟩ (.slice A z.f3.length c0))) rfl rfl ?_ ⟨_, rfl, hst _⟩
      clear hS hJ hpre hst hs hg hcs
      first | (go_simp; done) | (go_simp; rfl)
  case fin =>
    intro vals w8_ hJ
    obtain ⟨g7, A7, c7, hp7, ha7, hY7⟩ : ∃ (g : Nat) (A : Option Addr) (c : Nat), vals 6 = PTs g ∧ vals 1 = AGs x (.slice A x.f3.length c) ∧ YR w8_ g x A c := by
      obtain ⟨g, A, c, h1, h2, h3, h4, h5, h6⟩ := J5.fin (n := 12) (by omega) hJ (e := 0) (by omega)
      exact ⟨g, A, c, h1, h2, h4, h5, h6⟩
    have HY7 := Aside0.mk hY7
    clear hY7
    obtain ⟨g8, A8, c8, hp8, ha8, hY8⟩ : ∃ (g : Nat) (A : Option Addr) (c : Nat), vals 7 = PTs g ∧ vals 3 = AGs y (.slice A y.f3.length c) ∧ YR w8_ g y A c := by
      obtain ⟨g, A, c, h1, h2, h3, h4, h5, h6⟩ := J5.fin (n := 12) (by omega) hJ (e := 1) (by omega)
      exact ⟨g, A, c, h1, h2, h4, h5, h6⟩
    have HY8 := Aside0.mk hY8
    clear hY8
    obtain ⟨g9, A9, c9, hp9, ha9, hY9⟩ : ∃ (g : Nat) (A : Option Addr) (c : Nat), vals 8 = PTs g ∧ vals 5 = AGs z (.slice A z.f3.length c) ∧ YR w8_ g z A c := by
      obtain ⟨g, A, c, h1, h2, h3, h4, h5, h6⟩ := J5.fin (n := 12) (by omega) hJ (e := 2) (by omega)
      exact ⟨g, A, c, h1, h2, h4, h5, h6⟩
    have HY9 := Aside0.mk hY9
    clear hY9
    have v0 : vals 0 = .agg #[.int .i64 a.f0, .int .i64 a.f1, .string a.f2, .slice Aa a.f3.length ca] := hJ.ld 0 (by omega) rfl
    have v2 : vals 2 = .agg #[.int .i64 b.f0, .int .i64 b.f1, .string b.f2, .slice Ab b.f3.length cb] := hJ.ld 1 (by omega) rfl
    have v4 : vals 4 = .agg #[.int .i64 c.f0, .int .i64 c.f1, .string c.f2, .slice Ac c.f3.length cc] := hJ.ld 2 (by omega) rfl
    have HB8 := Aside0.mk (below_step HB.out hJ.below)
    clear hJ HB B_g3 B_g4 B_g5 Ha Hb Hc
    refine NoPanic.normal ?_
    simp only [DR.putAll, v0, v2, v4, ha7, ha8, ha9, hp7, hp8, hp9]
    simp only [Act.put, List.setIfInBounds_toArray, List.set_cons_zero, List.set_cons_succ]
    clear v0 v2 v4 ha7 ha8 ha9 hp7 hp8 hp9
    simp only [PTs, AGs]
    try go_wp2
    obtain ⟨XF, hXF⟩ : ∃ XF : Nat → Option Value, XF = fun k => (([some (AGs x (.slice A7 x.f3.length c7)), some (AGs x (.slice A7 x.f3.length c7)), some (.int .i64 0), some (.bool false), some (.bool false), some (AGs x (.slice A7 x.f3.length c7)), some (AGs x (.slice A7 x.f3.length c7)), some (.bool true), some (.bool false), some (.bool false), some (.bool false), some (AGs x (.slice A7 x.f3.length c7)), some (AGs y (.slice A8 y.f3.length c8)), some (.int .i64 (cmpS x y)), some (AGs y (.slice A8 y.f3.length c8)), some (AGs x (.slice A7 x.f3.length c7)), some (.int .i64 (-(cmpS x y))), some (.int .i64 (cmpS x y)), some (.bool false), some (.bool false), some (.bool false), some (AGs x (.slice A7 x.f3.length c7)), some (AGs y (.slice A8 y.f3.length c8)), some (.int .i64 (cmpS x y)), some (.bool (cmpS x y == 0)), some (AGs x (.slice A7 x.f3.length c7)), some (AGs y (.slice A8 y.f3.length c8)), some (.bool (cmpS x y == 0)), some (.bool false), some (.bool false)] : List (Option Value))[k]?).join := ⟨_, rfl⟩
    have X0 : XF 0 = some (AGs x (.slice A7 x.f3.length c7)) := by rw [hXF]; rfl
    have X1 : XF 1 = some (AGs x (.slice A7 x.f3.length c7)) := by rw [hXF]; rfl
    have X2 : XF 2 = some (.int .i64 0) := by rw [hXF]; rfl
    have X3 : XF 3 = some (.bool false) := by rw [hXF]; rfl
    have X4 : XF 4 = some (.bool false) := by rw [hXF]; rfl
    have X5 : XF 5 = some (AGs x (.slice A7 x.f3.length c7)) := by rw [hXF]; rfl
    have X6 : XF 6 = some (AGs x (.slice A7 x.f3.length c7)) := by rw [hXF]; rfl
    have X7 : XF 7 = some (.bool true) := by rw [hXF]; rfl
    have X8 : XF 8 = some (.bool false) := by rw [hXF]; rfl
    have X9 : XF 9 = some (.bool false) := by rw [hXF]; rfl
    have X10 : XF 10 = some (.bool false) := by rw [hXF]; rfl
    have X11 : XF 11 = some (AGs x (.slice A7 x.f3.length c7)) := by rw [hXF]; rfl
    have X12 : XF 12 = some (AGs y (.slice A8 y.f3.length c8)) := by rw [hXF]; rfl
    have X13 : XF 13 = some (.int .i64 (cmpS x y)) := by rw [hXF]; rfl
    have X14 : XF 14 = some (AGs y (.slice A8 y.f3.length c8)) := by rw [hXF]; rfl
    have X15 : XF 15 = some (AGs x (.slice A7 x.f3.length c7)) := by rw [hXF]; rfl
    have X16 : XF 16 = some (.int .i64 (-(cmpS x y))) := by rw [hXF]; rfl
    have X17 : XF 17 = some (.int .i64 (cmpS x y)) := by rw [hXF]; rfl
    have X18 : XF 18 = some (.bool false) := by rw [hXF]; rfl
    have X19 : XF 19 = some (.bool false) := by rw [hXF]; rfl
    have X20 : XF 20 = some (.bool false) := by rw [hXF]; rfl
    have X21 : XF 21 = some (AGs x (.slice A7 x.f3.length c7)) := by rw [hXF]; rfl
    have X22 : XF 22 = some (AGs y (.slice A8 y.f3.length c8)) := by rw [hXF]; rfl
    have X23 : XF 23 = some (.int .i64 (cmpS x y)) := by rw [hXF]; rfl
    have X24 : XF 24 = some (.bool (cmpS x y == 0)) := by rw [hXF]; rfl
    have X25 : XF 25 = some (AGs x (.slice A7 x.f3.length c7)) := by rw [hXF]; rfl
    have X26 : XF 26 = some (AGs y (.slice A8 y.f3.length c8)) := by rw [hXF]; rfl
    have X27 : XF 27 = some (.bool (cmpS x y == 0)) := by rw [hXF]; rfl
    have X28 : XF 28 = some (.bool false) := by rw [hXF]; rfl
    have X29 : XF 29 = some (.bool false) := by rw [hXF]; rfl
    clear hXF
    refine wp_region_noPanic ?_
    refine DR.wp_region_inv [some 31, some 32, some 33, some 34, some 35, some 36, some 37, some 38, some 39, some 40, some 41, some 42, some 43, some 44, some 45, some 46, some 47, some 48, some 49, some 50, some 51, some 52, some 53, some 54, some 55, some 56, some 57, some 58, some 59, some 60] (DR.JV XF (fun _ _ _ => True) w8_.heap.size w8_) (by kernel_rfl) (by kernel_rfl) (by kernel_rfl) (by kernel_rfl) (fun vals => DR.JV.init (below_drew (Below.refl _ _)) (below_drew (Below.refl w8_.heap.size w8_)).size vals) ?step ?fin
    case step =>
      intro jx o_ ls vals a0_ w13 ho hj hpre hS hJ
      have hjlt : jx < 30 := (Array.getElem?_eq_some_iff.1 ho).1
      obtain rfl | rfl | rfl | rfl | rfl | rfl | rfl | rfl | rfl | rfl | rfl | rfl | rfl | rfl | rfl | rfl | rfl | rfl | rfl | rfl | rfl | rfl | rfl | rfl | rfl | rfl | rfl | rfl | rfl | rfl : jx = 0 ∨ jx = 1 ∨ jx = 2 ∨ jx = 3 ∨ jx = 4 ∨ jx = 5 ∨ jx = 6 ∨ jx = 7 ∨ jx = 8 ∨ jx = 9 ∨ jx = 10 ∨ jx = 11 ∨ jx = 12 ∨ jx = 13 ∨ jx = 14 ∨ jx = 15 ∨ jx = 16 ∨ jx = 17 ∨ jx = 18 ∨ jx = 19 ∨ jx = 20 ∨ jx = 21 ∨ jx = 22 ∨ jx = 23 ∨ jx = 24 ∨ jx = 25 ∨ jx = 26 ∨ jx = 27 ∨ jx = 28 ∨ jx = 29 := by clear hpre; omega
      · cases ho
        have e7 : a0_.tmps[7]?.getD undef = .pointer (some ⟨g7, 0, none⟩) := (DR.eval_get a0_ _).trans (hS.out' rfl rfl)
        obtain ⟨hd0, hd1, hd2, hd3, _⟩ := c4o (YR.below HY7.out hJ.below).b
        refine DR.wpOp_run (v := AGs x (.slice A7 x.f3.length c7)) (w' := w13) rfl rfl ?_ ⟨_, rfl, hJ.value (fun _ _ _ _ _ _ => trivial) X0 (Below.refl _ _)⟩
        clear hS hJ hpre
        first | (go_simp; done) | (go_simp; rfl)
      · cases ho
        have e7 : a0_.tmps[7]?.getD undef = .pointer (some ⟨g7, 0, none⟩) := (DR.eval_get a0_ _).trans (hS.out' rfl rfl)
        obtain ⟨hd0, hd1, hd2, hd3, _⟩ := c4o (YR.below HY7.out hJ.below).b
        refine DR.wpOp_run (v := AGs x (.slice A7 x.f3.length c7)) (w' := w13) rfl rfl ?_ ⟨_, rfl, hJ.value (fun _ _ _ _ _ _ => trivial) X1 (Below.refl _ _)⟩
        clear hS hJ hpre
        first | (go_simp; done) | (go_simp; rfl)
      · cases ho
        have p0 : ls 0 = true := hpre { on := 0, ground := Ground.data } (by simp) rfl
        have p1 : ls 1 = true := hpre { on := 1, ground := Ground.data } (by simp) rfl
        have e31 : a0_.tmps[31]?.getD undef = AGs x (.slice A7 x.f3.length c7) := (DR.eval_get a0_ _).trans ((hS.on 0 31 rfl p0).trans (hJ.val 0 _ X0 p0))
        have e32 : a0_.tmps[32]?.getD undef = AGs x (.slice A7 x.f3.length c7) := (DR.eval_get a0_ _).trans ((hS.on 1 32 rfl p1).trans (hJ.val 1 _ X1 p1))
        have E31 := (DR.eval_get a0_ 31).symm.trans e31
        have E32 := (DR.eval_get a0_ 32).symm.trans e32
        have Y1 := YR.below HY7.out hJ.below
        have Y2 := YR.below HY7.out hJ.below
        refine DR.wpOp_call rfl rfl Tryd.func25 (by kernel_rfl) rfl #[AGs x (.slice A7 x.f3.length c7), AGs x (.slice A7 x.f3.length c7)] rfl (by simp only [List.map_toArray, List.map_cons, List.map_nil, E31, E32]) ?_
        refine (cmpCalls (cmpSelf x) Y1.C Y1.l Y2.C Y2.l).mono ?_
        rintro e wc ⟨rfl, hb⟩
        exact ⟨_, rfl, _, rfl, hJ.value (fun _ _ _ _ _ _ => trivial) X2 hb⟩
      · cases ho
        have p2 : ls 2 = true := hpre { on := 2, ground := Ground.data } (by simp) rfl
        have e33 : a0_.tmps[33]?.getD undef = .int .i64 0 := (DR.eval_get a0_ _).trans ((hS.on 2 33 rfl p2).trans (hJ.val 2 _ X2 p2))
        refine DR.wpOp_run (v := .bool false) (w' := w13) rfl rfl ?_ ⟨_, rfl, hJ.value (fun _ _ _ _ _ _ => trivial) X3 (Below.refl _ _)⟩
        clear hS hJ hpre
        first | (go_simp; done) | (go_simp; rfl)
      · cases ho
        have p3 : ls 3 = true := hpre { on := 3, ground := Ground.data } (by simp) rfl
        have e34 : a0_.tmps[34]?.getD undef = .bool false := (DR.eval_get a0_ _).trans ((hS.on 3 34 rfl p3).trans (hJ.val 3 _ X3 p3))
        refine DR.wpOp_run (v := .bool false) (w' := w13) rfl rfl ?_ ⟨_, rfl, hJ.value (fun _ _ _ _ _ _ => trivial) X4 (Below.refl _ _)⟩
        clear hS hJ hpre
        first | (go_simp; done) | (go_simp; rfl)
      · cases ho
        have p4 : ls 4 = true := hpre { on := 4, ground := Ground.guard } (by simp) rfl
        have HV : a0_.eval (.tmp 35) = .bool false := (hS.on 4 35 rfl p4).trans (hJ.val 4 _ X4 p4)
        have e7 : a0_.tmps[7]?.getD undef = .pointer (some ⟨g7, 0, none⟩) := (DR.eval_get a0_ _).trans (hS.out' rfl rfl)
        obtain ⟨hd0, hd1, hd2, hd3, _⟩ := c4o (YR.below HY7.out hJ.below).b
        refine wpOp_runW (v := AGs x (.slice A7 x.f3.length c7)) (w' := w13) rfl (wanted_of (j := 4) (t := 35) (b := false) rfl rfl HV) ?_ ⟨_, rfl, hJ.value (fun _ _ _ _ _ _ => trivial) X5 (Below.refl _ _)⟩
        clear hS hJ hpre
        first | (go_simp; done) | (go_simp; rfl)
      · cases ho
        have p4 : ls 4 = true := hpre { on := 4, ground := Ground.guard } (by simp) rfl
        have HV : a0_.eval (.tmp 35) = .bool false := (hS.on 4 35 rfl p4).trans (hJ.val 4 _ X4 p4)
        have e7 : a0_.tmps[7]?.getD undef = .pointer (some ⟨g7, 0, none⟩) := (DR.eval_get a0_ _).trans (hS.out' rfl rfl)
        obtain ⟨hd0, hd1, hd2, hd3, _⟩ := c4o (YR.below HY7.out hJ.below).b
        refine wpOp_runW (v := AGs x (.slice A7 x.f3.length c7)) (w' := w13) rfl (wanted_of (j := 4) (t := 35) (b := false) rfl rfl HV) ?_ ⟨_, rfl, hJ.value (fun _ _ _ _ _ _ => trivial) X6 (Below.refl _ _)⟩
        clear hS hJ hpre
        first | (go_simp; done) | (go_simp; rfl)
      · cases ho
        have p4 : ls 4 = true := hpre { on := 4, ground := Ground.guard } (by simp) rfl
        have HV : a0_.eval (.tmp 35) = .bool false := (hS.on 4 35 rfl p4).trans (hJ.val 4 _ X4 p4)
        have p5 : ls 5 = true := hpre { on := 5, ground := Ground.data } (by simp) rfl
        have p6 : ls 6 = true := hpre { on := 6, ground := Ground.data } (by simp) rfl
        have e36 : a0_.tmps[36]?.getD undef = AGs x (.slice A7 x.f3.length c7) := (DR.eval_get a0_ _).trans ((hS.on 5 36 rfl p5).trans (hJ.val 5 _ X5 p5))
        have e37 : a0_.tmps[37]?.getD undef = AGs x (.slice A7 x.f3.length c7) := (DR.eval_get a0_ _).trans ((hS.on 6 37 rfl p6).trans (hJ.val 6 _ X6 p6))
        have E36 := (DR.eval_get a0_ 36).symm.trans e36
        have E37 := (DR.eval_get a0_ 37).symm.trans e37
        have Y1 := YR.below HY7.out hJ.below
        have Y2 := YR.below HY7.out hJ.below
        refine wpOp_callW rfl (wanted_of (j := 4) (t := 35) (b := false) rfl rfl HV) Tryd.func24 (by kernel_rfl) rfl #[AGs x (.slice A7 x.f3.length c7), AGs x (.slice A7 x.f3.length c7)] rfl (by simp only [List.map_toArray, List.map_cons, List.map_nil, E36, E37]) ?_
        refine (eqCalls (by rw [cmpSelf]) Y1.C Y1.l Y2.C Y2.l).mono ?_
        rintro e wc ⟨rfl, hb⟩
        exact ⟨_, rfl, _, rfl, hJ.value (fun _ _ _ _ _ _ => trivial) X7 hb⟩
      · cases ho
        have p4 : ls 4 = true := hpre { on := 4, ground := Ground.guard } (by simp) rfl
        have HV : a0_.eval (.tmp 35) = .bool false := (hS.on 4 35 rfl p4).trans (hJ.val 4 _ X4 p4)
        have p7 : ls 7 = true := hpre { on := 7, ground := Ground.data } (by simp) rfl
        have e38 : a0_.tmps[38]?.getD undef = .bool true := (DR.eval_get a0_ _).trans ((hS.on 7 38 rfl p7).trans (hJ.val 7 _ X7 p7))
        refine wpOp_runW (v := .bool false) (w' := w13) rfl (wanted_of (j := 4) (t := 35) (b := false) rfl rfl HV) ?_ ⟨_, rfl, hJ.value (fun _ _ _ _ _ _ => trivial) X8 (Below.refl _ _)⟩
        clear hS hJ hpre
        first | (go_simp; done) | (go_simp; rfl)
      · cases ho
        have p4 : ls 4 = true := hpre { on := 4, ground := Ground.data } (by simp) rfl
        have e35 : a0_.tmps[35]?.getD undef = .bool false := (DR.eval_get a0_ _).trans ((hS.on 4 35 rfl p4).trans (hJ.val 4 _ X4 p4))
        have p8 : ls 8 = true := hpre { on := 8, ground := Ground.data } (by simp) rfl
        have e39 : a0_.tmps[39]?.getD undef = .bool false := (DR.eval_get a0_ _).trans ((hS.on 8 39 rfl p8).trans (hJ.val 8 _ X8 p8))
        refine DR.wpOp_run (v := .bool false) (w' := w13) rfl rfl ?_ ⟨_, rfl, hJ.value (fun _ _ _ _ _ _ => trivial) X9 (Below.refl _ _)⟩
        clear hS hJ hpre
        first | (go_simp; done) | (go_simp; rfl)
      · cases ho
        have p9 : ls 9 = true := hpre { on := 9, ground := Ground.data } (by simp) rfl
        have e40 : a0_.tmps[40]?.getD undef = .bool false := (DR.eval_get a0_ _).trans ((hS.on 9 40 rfl p9).trans (hJ.val 9 _ X9 p9))
        refine DR.wpOp_run (v := .bool false) (w' := w13) rfl rfl ?_ ⟨_, rfl, hJ.value (fun _ _ _ _ _ _ => trivial) X10 (Below.refl _ _)⟩
        clear hS hJ hpre
        first | (go_simp; done) | (go_simp; rfl)
      · cases ho
        have p10 : ls 10 = true := hpre { on := 10, ground := Ground.guard } (by simp) rfl
        have HV : a0_.eval (.tmp 41) = .bool false := (hS.on 10 41 rfl p10).trans (hJ.val 10 _ X10 p10)
        have e7 : a0_.tmps[7]?.getD undef = .pointer (some ⟨g7, 0, none⟩) := (DR.eval_get a0_ _).trans (hS.out' rfl rfl)
        obtain ⟨hd0, hd1, hd2, hd3, _⟩ := c4o (YR.below HY7.out hJ.below).b
        refine wpOp_runW (v := AGs x (.slice A7 x.f3.length c7)) (w' := w13) rfl (wanted_of (j := 10) (t := 41) (b := false) rfl rfl HV) ?_ ⟨_, rfl, hJ.value (fun _ _ _ _ _ _ => trivial) X11 (Below.refl _ _)⟩
        clear hS hJ hpre
        first | (go_simp; done) | (go_simp; rfl)
      · cases ho
        have p10 : ls 10 = true := hpre { on := 10, ground := Ground.guard } (by simp) rfl
        have HV : a0_.eval (.tmp 41) = .bool false := (hS.on 10 41 rfl p10).trans (hJ.val 10 _ X10 p10)
        have e8 : a0_.tmps[8]?.getD undef = .pointer (some ⟨g8, 0, none⟩) := (DR.eval_get a0_ _).trans (hS.out' rfl rfl)
        obtain ⟨hd0, hd1, hd2, hd3, _⟩ := c4o (YR.below HY8.out hJ.below).b
        refine wpOp_runW (v := AGs y (.slice A8 y.f3.length c8)) (w' := w13) rfl (wanted_of (j := 10) (t := 41) (b := false) rfl rfl HV) ?_ ⟨_, rfl, hJ.value (fun _ _ _ _ _ _ => trivial) X12 (Below.refl _ _)⟩
        clear hS hJ hpre
        first | (go_simp; done) | (go_simp; rfl)
      · cases ho
        have p10 : ls 10 = true := hpre { on := 10, ground := Ground.guard } (by simp) rfl
        have HV : a0_.eval (.tmp 41) = .bool false := (hS.on 10 41 rfl p10).trans (hJ.val 10 _ X10 p10)
        have p11 : ls 11 = true := hpre { on := 11, ground := Ground.data } (by simp) rfl
        have p12 : ls 12 = true := hpre { on := 12, ground := Ground.data } (by simp) rfl
        have e42 : a0_.tmps[42]?.getD undef = AGs x (.slice A7 x.f3.length c7) := (DR.eval_get a0_ _).trans ((hS.on 11 42 rfl p11).trans (hJ.val 11 _ X11 p11))
        have e43 : a0_.tmps[43]?.getD undef = AGs y (.slice A8 y.f3.length c8) := (DR.eval_get a0_ _).trans ((hS.on 12 43 rfl p12).trans (hJ.val 12 _ X12 p12))
        have E42 := (DR.eval_get a0_ 42).symm.trans e42
        have E43 := (DR.eval_get a0_ 43).symm.trans e43
        have Y1 := YR.below HY7.out hJ.below
        have Y2 := YR.below HY8.out hJ.below
        refine wpOp_callW rfl (wanted_of (j := 10) (t := 41) (b := false) rfl rfl HV) Tryd.func25 (by kernel_rfl) rfl #[AGs x (.slice A7 x.f3.length c7), AGs y (.slice A8 y.f3.length c8)] rfl (by simp only [List.map_toArray, List.map_cons, List.map_nil, E42, E43]) ?_
        refine (cmpCalls rfl Y1.C Y1.l Y2.C Y2.l).mono ?_
        rintro e wc ⟨rfl, hb⟩
        exact ⟨_, rfl, _, rfl, hJ.value (fun _ _ _ _ _ _ => trivial) X13 hb⟩
      · cases ho
        have p10 : ls 10 = true := hpre { on := 10, ground := Ground.guard } (by simp) rfl
        have HV : a0_.eval (.tmp 41) = .bool false := (hS.on 10 41 rfl p10).trans (hJ.val 10 _ X10 p10)
        have e8 : a0_.tmps[8]?.getD undef = .pointer (some ⟨g8, 0, none⟩) := (DR.eval_get a0_ _).trans (hS.out' rfl rfl)
        obtain ⟨hd0, hd1, hd2, hd3, _⟩ := c4o (YR.below HY8.out hJ.below).b
        refine wpOp_runW (v := AGs y (.slice A8 y.f3.length c8)) (w' := w13) rfl (wanted_of (j := 10) (t := 41) (b := false) rfl rfl HV) ?_ ⟨_, rfl, hJ.value (fun _ _ _ _ _ _ => trivial) X14 (Below.refl _ _)⟩
        clear hS hJ hpre
        first | (go_simp; done) | (go_simp; rfl)
      · cases ho
        have p10 : ls 10 = true := hpre { on := 10, ground := Ground.guard } (by simp) rfl
        have HV : a0_.eval (.tmp 41) = .bool false := (hS.on 10 41 rfl p10).trans (hJ.val 10 _ X10 p10)
        have e7 : a0_.tmps[7]?.getD undef = .pointer (some ⟨g7, 0, none⟩) := (DR.eval_get a0_ _).trans (hS.out' rfl rfl)
        obtain ⟨hd0, hd1, hd2, hd3, _⟩ := c4o (YR.below HY7.out hJ.below).b
        refine wpOp_runW (v := AGs x (.slice A7 x.f3.length c7)) (w' := w13) rfl (wanted_of (j := 10) (t := 41) (b := false) rfl rfl HV) ?_ ⟨_, rfl, hJ.value (fun _ _ _ _ _ _ => trivial) X15 (Below.refl _ _)⟩
        clear hS hJ hpre
        first | (go_simp; done) | (go_simp; rfl)
      · cases ho
        have p10 : ls 10 = true := hpre { on := 10, ground := Ground.guard } (by simp) rfl
        have HV : a0_.eval (.tmp 41) = .bool false := (hS.on 10 41 rfl p10).trans (hJ.val 10 _ X10 p10)
        have p14 : ls 14 = true := hpre { on := 14, ground := Ground.data } (by simp) rfl
        have p15 : ls 15 = true := hpre { on := 15, ground := Ground.data } (by simp) rfl
        have e45 : a0_.tmps[45]?.getD undef = AGs y (.slice A8 y.f3.length c8) := (DR.eval_get a0_ _).trans ((hS.on 14 45 rfl p14).trans (hJ.val 14 _ X14 p14))
        have e46 : a0_.tmps[46]?.getD undef = AGs x (.slice A7 x.f3.length c7) := (DR.eval_get a0_ _).trans ((hS.on 15 46 rfl p15).trans (hJ.val 15 _ X15 p15))
        have E45 := (DR.eval_get a0_ 45).symm.trans e45
        have E46 := (DR.eval_get a0_ 46).symm.trans e46
        have Y1 := YR.below HY8.out hJ.below
        have Y2 := YR.below HY7.out hJ.below
        refine wpOp_callW rfl (wanted_of (j := 10) (t := 41) (b := false) rfl rfl HV) Tryd.func25 (by kernel_rfl) rfl #[AGs y (.slice A8 y.f3.length c8), AGs x (.slice A7 x.f3.length c7)] rfl (by simp only [List.map_toArray, List.map_cons, List.map_nil, E45, E46]) ?_
        refine (cmpCalls (cmpNeg y x) Y1.C Y1.l Y2.C Y2.l).mono ?_
        rintro e wc ⟨rfl, hb⟩
        exact ⟨_, rfl, _, rfl, hJ.value (fun _ _ _ _ _ _ => trivial) X16 hb⟩
      · cases ho
        have p10 : ls 10 = true := hpre { on := 10, ground := Ground.guard } (by simp) rfl
        have HV : a0_.eval (.tmp 41) = .bool false := (hS.on 10 41 rfl p10).trans (hJ.val 10 _ X10 p10)
        have p16 : ls 16 = true := hpre { on := 16, ground := Ground.data } (by simp) rfl
        have e47 : a0_.tmps[47]?.getD undef = .int .i64 (-(cmpS x y)) := (DR.eval_get a0_ _).trans ((hS.on 16 47 rfl p16).trans (hJ.val 16 _ X16 p16))
        have hneg2 : IntKind.i64.wrap (cmpS x y) = cmpS x y := by have := cmpRange x y; exact wrap_i64 (by omega) (by omega)
        have hneg : IntKind.i64.wrap (-(-cmpS x y)) = cmpS x y := by have e : -(-cmpS x y) = cmpS x y := (by omega); rw [e]; exact hneg2
        refine wpOp_runW (v := .int .i64 (cmpS x y)) (w' := w13) rfl (wanted_of (j := 10) (t := 41) (b := false) rfl rfl HV) ?_ ⟨_, rfl, hJ.value (fun _ _ _ _ _ _ => trivial) X17 (Below.refl _ _)⟩
        clear hS hJ hpre
        first | (go_simp; done) | (go_simp; rfl)
      · cases ho
        have p10 : ls 10 = true := hpre { on := 10, ground := Ground.guard } (by simp) rfl
        have HV : a0_.eval (.tmp 41) = .bool false := (hS.on 10 41 rfl p10).trans (hJ.val 10 _ X10 p10)
        have p13 : ls 13 = true := hpre { on := 13, ground := Ground.data } (by simp) rfl
        have e44 : a0_.tmps[44]?.getD undef = .int .i64 (cmpS x y) := (DR.eval_get a0_ _).trans ((hS.on 13 44 rfl p13).trans (hJ.val 13 _ X13 p13))
        have p17 : ls 17 = true := hpre { on := 17, ground := Ground.data } (by simp) rfl
        have e48 : a0_.tmps[48]?.getD undef = .int .i64 (cmpS x y) := (DR.eval_get a0_ _).trans ((hS.on 17 48 rfl p17).trans (hJ.val 17 _ X17 p17))
        refine wpOp_runW (v := .bool false) (w' := w13) rfl (wanted_of (j := 10) (t := 41) (b := false) rfl rfl HV) ?_ ⟨_, rfl, hJ.value (fun _ _ _ _ _ _ => trivial) X18 (Below.refl _ _)⟩
        clear hS hJ hpre
        first | (go_simp; done) | (go_simp; rfl)
      · cases ho
        have p10 : ls 10 = true := hpre { on := 10, ground := Ground.data } (by simp) rfl
        have e41 : a0_.tmps[41]?.getD undef = .bool false := (DR.eval_get a0_ _).trans ((hS.on 10 41 rfl p10).trans (hJ.val 10 _ X10 p10))
        have p18 : ls 18 = true := hpre { on := 18, ground := Ground.data } (by simp) rfl
        have e49 : a0_.tmps[49]?.getD undef = .bool false := (DR.eval_get a0_ _).trans ((hS.on 18 49 rfl p18).trans (hJ.val 18 _ X18 p18))
        refine DR.wpOp_run (v := .bool false) (w' := w13) rfl rfl ?_ ⟨_, rfl, hJ.value (fun _ _ _ _ _ _ => trivial) X19 (Below.refl _ _)⟩
        clear hS hJ hpre
        first | (go_simp; done) | (go_simp; rfl)
      · cases ho
        have p19 : ls 19 = true := hpre { on := 19, ground := Ground.data } (by simp) rfl
        have e50 : a0_.tmps[50]?.getD undef = .bool false := (DR.eval_get a0_ _).trans ((hS.on 19 50 rfl p19).trans (hJ.val 19 _ X19 p19))
        refine DR.wpOp_run (v := .bool false) (w' := w13) rfl rfl ?_ ⟨_, rfl, hJ.value (fun _ _ _ _ _ _ => trivial) X20 (Below.refl _ _)⟩
        clear hS hJ hpre
        first | (go_simp; done) | (go_simp; rfl)
      · cases ho
        have p20 : ls 20 = true := hpre { on := 20, ground := Ground.guard } (by simp) rfl
        have HV : a0_.eval (.tmp 51) = .bool false := (hS.on 20 51 rfl p20).trans (hJ.val 20 _ X20 p20)
        have e7 : a0_.tmps[7]?.getD undef = .pointer (some ⟨g7, 0, none⟩) := (DR.eval_get a0_ _).trans (hS.out' rfl rfl)
        obtain ⟨hd0, hd1, hd2, hd3, _⟩ := c4o (YR.below HY7.out hJ.below).b
        refine wpOp_runW (v := AGs x (.slice A7 x.f3.length c7)) (w' := w13) rfl (wanted_of (j := 20) (t := 51) (b := false) rfl rfl HV) ?_ ⟨_, rfl, hJ.value (fun _ _ _ _ _ _ => trivial) X21 (Below.refl _ _)⟩
        clear hS hJ hpre
        first | (go_simp; done) | (go_simp; rfl)
      · cases ho
        have p20 : ls 20 = true := hpre { on := 20, ground := Ground.guard } (by simp) rfl
        have HV : a0_.eval (.tmp 51) = .bool false := (hS.on 20 51 rfl p20).trans (hJ.val 20 _ X20 p20)
        have e8 : a0_.tmps[8]?.getD undef = .pointer (some ⟨g8, 0, none⟩) := (DR.eval_get a0_ _).trans (hS.out' rfl rfl)
        obtain ⟨hd0, hd1, hd2, hd3, _⟩ := c4o (YR.below HY8.out hJ.below).b
        refine wpOp_runW (v := AGs y (.slice A8 y.f3.length c8)) (w' := w13) rfl (wanted_of (j := 20) (t := 51) (b := false) rfl rfl HV) ?_ ⟨_, rfl, hJ.value (fun _ _ _ _ _ _ => trivial) X22 (Below.refl _ _)⟩
        clear hS hJ hpre
        first | (go_simp; done) | (go_simp; rfl)
      · cases ho
        have p20 : ls 20 = true := hpre { on := 20, ground := Ground.guard } (by simp) rfl
        have HV : a0_.eval (.tmp 51) = .bool false := (hS.on 20 51 rfl p20).trans (hJ.val 20 _ X20 p20)
        have p21 : ls 21 = true := hpre { on := 21, ground := Ground.data } (by simp) rfl
        have p22 : ls 22 = true := hpre { on := 22, ground := Ground.data } (by simp) rfl
        have e52 : a0_.tmps[52]?.getD undef = AGs x (.slice A7 x.f3.length c7) := (DR.eval_get a0_ _).trans ((hS.on 21 52 rfl p21).trans (hJ.val 21 _ X21 p21))
        have e53 : a0_.tmps[53]?.getD undef = AGs y (.slice A8 y.f3.length c8) := (DR.eval_get a0_ _).trans ((hS.on 22 53 rfl p22).trans (hJ.val 22 _ X22 p22))
        have E52 := (DR.eval_get a0_ 52).symm.trans e52
        have E53 := (DR.eval_get a0_ 53).symm.trans e53
        have Y1 := YR.below HY7.out hJ.below
        have Y2 := YR.below HY8.out hJ.below
        refine wpOp_callW rfl (wanted_of (j := 20) (t := 51) (b := false) rfl rfl HV) Tryd.func25 (by kernel_rfl) rfl #[AGs x (.slice A7 x.f3.length c7), AGs y (.slice A8 y.f3.length c8)] rfl (by simp only [List.map_toArray, List.map_cons, List.map_nil, E52, E53]) ?_
        refine (cmpCalls rfl Y1.C Y1.l Y2.C Y2.l).mono ?_
        rintro e wc ⟨rfl, hb⟩
        exact ⟨_, rfl, _, rfl, hJ.value (fun _ _ _ _ _ _ => trivial) X23 hb⟩
      · cases ho
        have p20 : ls 20 = true := hpre { on := 20, ground := Ground.guard } (by simp) rfl
        have HV : a0_.eval (.tmp 51) = .bool false := (hS.on 20 51 rfl p20).trans (hJ.val 20 _ X20 p20)
        have p23 : ls 23 = true := hpre { on := 23, ground := Ground.data } (by simp) rfl
        have e54 : a0_.tmps[54]?.getD undef = .int .i64 (cmpS x y) := (DR.eval_get a0_ _).trans ((hS.on 23 54 rfl p23).trans (hJ.val 23 _ X23 p23))
        refine wpOp_runW (v := .bool (cmpS x y == 0)) (w' := w13) rfl (wanted_of (j := 20) (t := 51) (b := false) rfl rfl HV) ?_ ⟨_, rfl, hJ.value (fun _ _ _ _ _ _ => trivial) X24 (Below.refl _ _)⟩
        clear hS hJ hpre
        first | (go_simp; done) | (go_simp; rfl)
      · cases ho
        have p20 : ls 20 = true := hpre { on := 20, ground := Ground.guard } (by simp) rfl
        have HV : a0_.eval (.tmp 51) = .bool false := (hS.on 20 51 rfl p20).trans (hJ.val 20 _ X20 p20)
        have e7 : a0_.tmps[7]?.getD undef = .pointer (some ⟨g7, 0, none⟩) := (DR.eval_get a0_ _).trans (hS.out' rfl rfl)
        obtain ⟨hd0, hd1, hd2, hd3, _⟩ := c4o (YR.below HY7.out hJ.below).b
        refine wpOp_runW (v := AGs x (.slice A7 x.f3.length c7)) (w' := w13) rfl (wanted_of (j := 20) (t := 51) (b := false) rfl rfl HV) ?_ ⟨_, rfl, hJ.value (fun _ _ _ _ _ _ => trivial) X25 (Below.refl _ _)⟩
        clear hS hJ hpre
        first | (go_simp; done) | (go_simp; rfl)
      · cases ho
        have p20 : ls 20 = true := hpre { on := 20, ground := Ground.guard } (by simp) rfl
        have HV : a0_.eval (.tmp 51) = .bool false := (hS.on 20 51 rfl p20).trans (hJ.val 20 _ X20 p20)
        have e8 : a0_.tmps[8]?.getD undef = .pointer (some ⟨g8, 0, none⟩) := (DR.eval_get a0_ _).trans (hS.out' rfl rfl)
        obtain ⟨hd0, hd1, hd2, hd3, _⟩ := c4o (YR.below HY8.out hJ.below).b
        refine wpOp_runW (v := AGs y (.slice A8 y.f3.length c8)) (w' := w13) rfl (wanted_of (j := 20) (t := 51) (b := false) rfl rfl HV) ?_ ⟨_, rfl, hJ.value (fun _ _ _ _ _ _ => trivial) X26 (Below.refl _ _)⟩
        clear hS hJ hpre
        first | (go_simp; done) | (go_simp; rfl)
      · cases ho
        have p20 : ls 20 = true := hpre { on := 20, ground := Ground.guard } (by simp) rfl
        have HV : a0_.eval (.tmp 51) = .bool false := (hS.on 20 51 rfl p20).trans (hJ.val 20 _ X20 p20)
        have p25 : ls 25 = true := hpre { on := 25, ground := Ground.data } (by simp) rfl
        have p26 : ls 26 = true := hpre { on := 26, ground := Ground.data } (by simp) rfl
        have e56 : a0_.tmps[56]?.getD undef = AGs x (.slice A7 x.f3.length c7) := (DR.eval_get a0_ _).trans ((hS.on 25 56 rfl p25).trans (hJ.val 25 _ X25 p25))
        have e57 : a0_.tmps[57]?.getD undef = AGs y (.slice A8 y.f3.length c8) := (DR.eval_get a0_ _).trans ((hS.on 26 57 rfl p26).trans (hJ.val 26 _ X26 p26))
        have E56 := (DR.eval_get a0_ 56).symm.trans e56
        have E57 := (DR.eval_get a0_ 57).symm.trans e57
        have Y1 := YR.below HY7.out hJ.below
        have Y2 := YR.below HY8.out hJ.below
        refine wpOp_callW rfl (wanted_of (j := 20) (t := 51) (b := false) rfl rfl HV) Tryd.func24 (by kernel_rfl) rfl #[AGs x (.slice A7 x.f3.length c7), AGs y (.slice A8 y.f3.length c8)] rfl (by simp only [List.map_toArray, List.map_cons, List.map_nil, E56, E57]) ?_
        refine (eqCalls rfl Y1.C Y1.l Y2.C Y2.l).mono ?_
        rintro e wc ⟨rfl, hb⟩
        exact ⟨_, rfl, _, rfl, hJ.value (fun _ _ _ _ _ _ => trivial) X27 hb⟩
      · cases ho
        have p20 : ls 20 = true := hpre { on := 20, ground := Ground.guard } (by simp) rfl
        have HV : a0_.eval (.tmp 51) = .bool false := (hS.on 20 51 rfl p20).trans (hJ.val 20 _ X20 p20)
        have p24 : ls 24 = true := hpre { on := 24, ground := Ground.data } (by simp) rfl
        have e55 : a0_.tmps[55]?.getD undef = .bool (cmpS x y == 0) := (DR.eval_get a0_ _).trans ((hS.on 24 55 rfl p24).trans (hJ.val 24 _ X24 p24))
        have p27 : ls 27 = true := hpre { on := 27, ground := Ground.data } (by simp) rfl
        have e58 : a0_.tmps[58]?.getD undef = .bool (cmpS x y == 0) := (DR.eval_get a0_ _).trans ((hS.on 27 58 rfl p27).trans (hJ.val 27 _ X27 p27))
        refine wpOp_runW (v := .bool false) (w' := w13) rfl (wanted_of (j := 20) (t := 51) (b := false) rfl rfl HV) ?_ ⟨_, rfl, hJ.value (fun _ _ _ _ _ _ => trivial) X28 (Below.refl _ _)⟩
        clear hS hJ hpre
        first | (go_simp; done) | (go_simp; rfl)
      · cases ho
        have p20 : ls 20 = true := hpre { on := 20, ground := Ground.data } (by simp) rfl
        have e51 : a0_.tmps[51]?.getD undef = .bool false := (DR.eval_get a0_ _).trans ((hS.on 20 51 rfl p20).trans (hJ.val 20 _ X20 p20))
        have p28 : ls 28 = true := hpre { on := 28, ground := Ground.data } (by simp) rfl
        have e59 : a0_.tmps[59]?.getD undef = .bool false := (DR.eval_get a0_ _).trans ((hS.on 28 59 rfl p28).trans (hJ.val 28 _ X28 p28))
        refine DR.wpOp_run (v := .bool false) (w' := w13) rfl rfl ?_ ⟨_, rfl, hJ.value (fun _ _ _ _ _ _ => trivial) X29 (Below.refl _ _)⟩
        clear hS hJ hpre
        first | (go_simp; done) | (go_simp; rfl)
    case fin =>
      intro vals w9_ hJ
      have v0 := hJ.val 0 _ X0 rfl
      have v1 := hJ.val 1 _ X1 rfl
      have v2 := hJ.val 2 _ X2 rfl
      have v3 := hJ.val 3 _ X3 rfl
      have v4 := hJ.val 4 _ X4 rfl
      have v5 := hJ.val 5 _ X5 rfl
      have v6 := hJ.val 6 _ X6 rfl
      have v7 := hJ.val 7 _ X7 rfl
      have v8 := hJ.val 8 _ X8 rfl
      have v9 := hJ.val 9 _ X9 rfl
      have v10 := hJ.val 10 _ X10 rfl
      have v11 := hJ.val 11 _ X11 rfl
      have v12 := hJ.val 12 _ X12 rfl
      have v13 := hJ.val 13 _ X13 rfl
      have v14 := hJ.val 14 _ X14 rfl
      have v15 := hJ.val 15 _ X15 rfl
      have v16 := hJ.val 16 _ X16 rfl
      have v17 := hJ.val 17 _ X17 rfl
      have v18 := hJ.val 18 _ X18 rfl
      have v19 := hJ.val 19 _ X19 rfl
      have v20 := hJ.val 20 _ X20 rfl
      have v21 := hJ.val 21 _ X21 rfl
      have v22 := hJ.val 22 _ X22 rfl
      have v23 := hJ.val 23 _ X23 rfl
      have v24 := hJ.val 24 _ X24 rfl
      have v25 := hJ.val 25 _ X25 rfl
      have v26 := hJ.val 26 _ X26 rfl
      have v27 := hJ.val 27 _ X27 rfl
      have v28 := hJ.val 28 _ X28 rfl
      have v29 := hJ.val 29 _ X29 rfl
      have HB9 := Aside0.mk (below_step HB8.out hJ.below)
      have HZ7 := Aside0.mk (YR.below HY7.out hJ.below)
      have HZ8 := Aside0.mk (YR.below HY8.out hJ.below)
      have HZ9 := Aside0.mk (YR.below HY9.out hJ.below)
      clear hJ HB8 HY7 HY8 HY9 X0 X1 X2 X3 X4 X5 X6 X7 X8 X9 X10 X11 X12 X13 X14 X15 X16 X17 X18 X19 X20 X21 X22 X23 X24 X25 X26 X27 X28 X29
      refine NoPanic.normal ?_
      simp only [DR.putAll, v0, v1, v2, v3, v4, v5, v6, v7, v8, v9, v10, v11, v12, v13, v14, v15, v16, v17, v18, v19, v20, v21, v22, v23, v24, v25, v26, v27, v28, v29]
      simp only [Act.put, List.setIfInBounds_toArray, List.set_cons_zero, List.set_cons_succ]
      clear v0 v1 v2 v3 v4 v5 v6 v7 v8 v9 v10 v11 v12 v13 v14 v15 v16 v17 v18 v19 v20 v21 v22 v23 v24 v25 v26 v27 v28 v29
      obtain ⟨hc_7_0, hc_7_1, hc_7_2, hc_7_3, hf_7_0, hf_7_1, hf_7_2, hf_7_3⟩ := c4o HZ7.out.b
      obtain ⟨hc_8_0, hc_8_1, hc_8_2, hc_8_3, hf_8_0, hf_8_1, hf_8_2, hf_8_3⟩ := c4o HZ8.out.b
      obtain ⟨hc_9_0, hc_9_1, hc_9_2, hc_9_3, hf_9_0, hf_9_1, hf_9_2, hf_9_3⟩ := c4o HZ9.out.b
      simp only [PTs, AGs]
      by_cases h1 : 0 < cmpS x y
      · have d1 : decide (0 < cmpS x y) = true := decide_eq_true h1
        go_wp2_with (first | ((with_reducible refine gate_dst (N := 63) rfl ?_); (try (refine gate_guard (by rfl) ?_; dsimp only)); refine goesL_ (some 63) rfl rfl Tryd.func25 (by kernel_rfl) rfl #[AGs x (.slice A7 x.f3.length c7), AGs y (.slice A8 y.f3.length c8)] rfl (by (try simp only [List.map_toArray, List.map_cons, List.map_nil]); first | done | rfl) ?_; refine (cmpCalls rfl (by exact (YR.below HZ7.out Lift.h).C) HZ7.out.l (by exact (YR.below HZ8.out Lift.h).C) HZ8.out.l).mono ?_; rintro e wa_ ⟨rfl, hb⟩; refine ⟨_, rfl, ?_⟩; have n7_ := Aside0.mk (YR.below (YR.below HZ7.out Lift.h) hb); have n8_ := Aside0.mk (YR.below (YR.below HZ8.out Lift.h) hb); have n9_ := Aside0.mk (YR.below (YR.below HZ9.out Lift.h) hb); have nB_ := Aside0.mk (bbL HB9.out hb); clear HZ7 HZ8 HZ9 HB9 hb hc_7_0 hf_7_0 hc_7_1 hf_7_1 hc_7_2 hf_7_2 hc_7_3 hf_7_3 hc_8_0 hf_8_0 hc_8_1 hf_8_1 hc_8_2 hf_8_2 hc_8_3 hf_8_3 hc_9_0 hf_9_0 hc_9_1 hf_9_1 hc_9_2 hf_9_2 hc_9_3 hf_9_3; have HZ7 := n7_; have HZ8 := n8_; have HZ9 := n9_; have HB9 := nB_; clear n7_ n8_ n9_ nB_; obtain ⟨hc_7_0, hc_7_1, hc_7_2, hc_7_3, hf_7_0, hf_7_1, hf_7_2, hf_7_3⟩ := c4o HZ7.out.b; obtain ⟨hc_8_0, hc_8_1, hc_8_2, hc_8_3, hf_8_0, hf_8_1, hf_8_2, hf_8_3⟩ := c4o HZ8.out.b; obtain ⟨hc_9_0, hc_9_1, hc_9_2, hc_9_3, hf_9_0, hf_9_1, hf_9_2, hf_9_3⟩ := c4o HZ9.out.b))
        go_ret
        exact ⟨rfl, blL HB9.out⟩
      · have d1 : decide (0 < cmpS x y) = false := decide_eq_false h1
        by_cases h2 : 0 < cmpS y z
        · have d2 : decide (0 < cmpS y z) = true := decide_eq_true h2
          go_wp2_with (first | ((with_reducible refine gate_dst (N := 63) rfl ?_); (try (refine gate_guard (by rfl) ?_; dsimp only)); refine goesL_ (some 63) rfl rfl Tryd.func25 (by kernel_rfl) rfl #[AGs x (.slice A7 x.f3.length c7), AGs y (.slice A8 y.f3.length c8)] rfl (by (try simp only [List.map_toArray, List.map_cons, List.map_nil]); first | done | rfl) ?_; refine (cmpCalls rfl (by exact (YR.below HZ7.out Lift.h).C) HZ7.out.l (by exact (YR.below HZ8.out Lift.h).C) HZ8.out.l).mono ?_; rintro e wa_ ⟨rfl, hb⟩; refine ⟨_, rfl, ?_⟩; have n7_ := Aside0.mk (YR.below (YR.below HZ7.out Lift.h) hb); have n8_ := Aside0.mk (YR.below (YR.below HZ8.out Lift.h) hb); have n9_ := Aside0.mk (YR.below (YR.below HZ9.out Lift.h) hb); have nB_ := Aside0.mk (bbL HB9.out hb); clear HZ7 HZ8 HZ9 HB9 hb hc_7_0 hf_7_0 hc_7_1 hf_7_1 hc_7_2 hf_7_2 hc_7_3 hf_7_3 hc_8_0 hf_8_0 hc_8_1 hf_8_1 hc_8_2 hf_8_2 hc_8_3 hf_8_3 hc_9_0 hf_9_0 hc_9_1 hf_9_1 hc_9_2 hf_9_2 hc_9_3 hf_9_3; have HZ7 := n7_; have HZ8 := n8_; have HZ9 := n9_; have HB9 := nB_; clear n7_ n8_ n9_ nB_; obtain ⟨hc_7_0, hc_7_1, hc_7_2, hc_7_3, hf_7_0, hf_7_1, hf_7_2, hf_7_3⟩ := c4o HZ7.out.b; obtain ⟨hc_8_0, hc_8_1, hc_8_2, hc_8_3, hf_8_0, hf_8_1, hf_8_2, hf_8_3⟩ := c4o HZ8.out.b; obtain ⟨hc_9_0, hc_9_1, hc_9_2, hc_9_3, hf_9_0, hf_9_1, hf_9_2, hf_9_3⟩ := c4o HZ9.out.b) | ((with_reducible refine gate_dst (N := 68) rfl ?_); (try (refine gate_guard (by rfl) ?_; dsimp only)); refine goesL_ (some 68) rfl rfl Tryd.func25 (by kernel_rfl) rfl #[AGs y (.slice A8 y.f3.length c8), AGs z (.slice A9 z.f3.length c9)] rfl (by (try simp only [List.map_toArray, List.map_cons, List.map_nil]); first | done | rfl) ?_; refine (cmpCalls rfl (by exact (YR.below HZ8.out Lift.h).C) HZ8.out.l (by exact (YR.below HZ9.out Lift.h).C) HZ9.out.l).mono ?_; rintro e wb_ ⟨rfl, hb⟩; refine ⟨_, rfl, ?_⟩; have n7_ := Aside0.mk (YR.below (YR.below HZ7.out Lift.h) hb); have n8_ := Aside0.mk (YR.below (YR.below HZ8.out Lift.h) hb); have n9_ := Aside0.mk (YR.below (YR.below HZ9.out Lift.h) hb); have nB_ := Aside0.mk (bbL HB9.out hb); clear HZ7 HZ8 HZ9 HB9 hb hc_7_0 hf_7_0 hc_7_1 hf_7_1 hc_7_2 hf_7_2 hc_7_3 hf_7_3 hc_8_0 hf_8_0 hc_8_1 hf_8_1 hc_8_2 hf_8_2 hc_8_3 hf_8_3 hc_9_0 hf_9_0 hc_9_1 hf_9_1 hc_9_2 hf_9_2 hc_9_3 hf_9_3; have HZ7 := n7_; have HZ8 := n8_; have HZ9 := n9_; have HB9 := nB_; clear n7_ n8_ n9_ nB_; obtain ⟨hc_7_0, hc_7_1, hc_7_2, hc_7_3, hf_7_0, hf_7_1, hf_7_2, hf_7_3⟩ := c4o HZ7.out.b; obtain ⟨hc_8_0, hc_8_1, hc_8_2, hc_8_3, hf_8_0, hf_8_1, hf_8_2, hf_8_3⟩ := c4o HZ8.out.b; obtain ⟨hc_9_0, hc_9_1, hc_9_2, hc_9_3, hf_9_0, hf_9_1, hf_9_2, hf_9_3⟩ := c4o HZ9.out.b))
          go_ret
          exact ⟨rfl, blL HB9.out⟩
        · have d2 : decide (0 < cmpS y z) = false := decide_eq_false h2
          have d3 : decide (cmpS x z ≤ 0) = true := decide_eq_true (cmpTrans (x := x) (y := y) (z := z) (by omega) (by omega))
          go_wp2_with (first | ((with_reducible refine gate_dst (N := 63) rfl ?_); (try (refine gate_guard (by rfl) ?_; dsimp only)); refine goesL_ (some 63) rfl rfl Tryd.func25 (by kernel_rfl) rfl #[AGs x (.slice A7 x.f3.length c7), AGs y (.slice A8 y.f3.length c8)] rfl (by (try simp only [List.map_toArray, List.map_cons, List.map_nil]); first | done | rfl) ?_; refine (cmpCalls rfl (by exact (YR.below HZ7.out Lift.h).C) HZ7.out.l (by exact (YR.below HZ8.out Lift.h).C) HZ8.out.l).mono ?_; rintro e wa_ ⟨rfl, hb⟩; refine ⟨_, rfl, ?_⟩; have n7_ := Aside0.mk (YR.below (YR.below HZ7.out Lift.h) hb); have n8_ := Aside0.mk (YR.below (YR.below HZ8.out Lift.h) hb); have n9_ := Aside0.mk (YR.below (YR.below HZ9.out Lift.h) hb); have nB_ := Aside0.mk (bbL HB9.out hb); clear HZ7 HZ8 HZ9 HB9 hb hc_7_0 hf_7_0 hc_7_1 hf_7_1 hc_7_2 hf_7_2 hc_7_3 hf_7_3 hc_8_0 hf_8_0 hc_8_1 hf_8_1 hc_8_2 hf_8_2 hc_8_3 hf_8_3 hc_9_0 hf_9_0 hc_9_1 hf_9_1 hc_9_2 hf_9_2 hc_9_3 hf_9_3; have HZ7 := n7_; have HZ8 := n8_; have HZ9 := n9_; have HB9 := nB_; clear n7_ n8_ n9_ nB_; obtain ⟨hc_7_0, hc_7_1, hc_7_2, hc_7_3, hf_7_0, hf_7_1, hf_7_2, hf_7_3⟩ := c4o HZ7.out.b; obtain ⟨hc_8_0, hc_8_1, hc_8_2, hc_8_3, hf_8_0, hf_8_1, hf_8_2, hf_8_3⟩ := c4o HZ8.out.b; obtain ⟨hc_9_0, hc_9_1, hc_9_2, hc_9_3, hf_9_0, hf_9_1, hf_9_2, hf_9_3⟩ := c4o HZ9.out.b) | ((with_reducible refine gate_dst (N := 68) rfl ?_); (try (refine gate_guard (by rfl) ?_; dsimp only)); refine goesL_ (some 68) rfl rfl Tryd.func25 (by kernel_rfl) rfl #[AGs y (.slice A8 y.f3.length c8), AGs z (.slice A9 z.f3.length c9)] rfl (by (try simp only [List.map_toArray, List.map_cons, List.map_nil]); first | done | rfl) ?_; refine (cmpCalls rfl (by exact (YR.below HZ8.out Lift.h).C) HZ8.out.l (by exact (YR.below HZ9.out Lift.h).C) HZ9.out.l).mono ?_; rintro e wb_ ⟨rfl, hb⟩; refine ⟨_, rfl, ?_⟩; have n7_ := Aside0.mk (YR.below (YR.below HZ7.out Lift.h) hb); have n8_ := Aside0.mk (YR.below (YR.below HZ8.out Lift.h) hb); have n9_ := Aside0.mk (YR.below (YR.below HZ9.out Lift.h) hb); have nB_ := Aside0.mk (bbL HB9.out hb); clear HZ7 HZ8 HZ9 HB9 hb hc_7_0 hf_7_0 hc_7_1 hf_7_1 hc_7_2 hf_7_2 hc_7_3 hf_7_3 hc_8_0 hf_8_0 hc_8_1 hf_8_1 hc_8_2 hf_8_2 hc_8_3 hf_8_3 hc_9_0 hf_9_0 hc_9_1 hf_9_1 hc_9_2 hf_9_2 hc_9_3 hf_9_3; have HZ7 := n7_; have HZ8 := n8_; have HZ9 := n9_; have HB9 := nB_; clear n7_ n8_ n9_ nB_; obtain ⟨hc_7_0, hc_7_1, hc_7_2, hc_7_3, hf_7_0, hf_7_1, hf_7_2, hf_7_3⟩ := c4o HZ7.out.b; obtain ⟨hc_8_0, hc_8_1, hc_8_2, hc_8_3, hf_8_0, hf_8_1, hf_8_2, hf_8_3⟩ := c4o HZ8.out.b; obtain ⟨hc_9_0, hc_9_1, hc_9_2, hc_9_3, hf_9_0, hf_9_1, hf_9_2, hf_9_3⟩ := c4o HZ9.out.b) | ((with_reducible refine gate_dst (N := 74) rfl ?_); (try (refine gate_guard (by rfl) ?_; dsimp only)); refine goesL_ (some 74) rfl rfl Tryd.func25 (by kernel_rfl) rfl #[AGs x (.slice A7 x.f3.length c7), AGs z (.slice A9 z.f3.length c9)] rfl (by (try simp only [List.map_toArray, List.map_cons, List.map_nil]); first | done | rfl) ?_; refine (cmpCalls rfl (by exact (YR.below HZ7.out Lift.h).C) HZ7.out.l (by exact (YR.below HZ9.out Lift.h).C) HZ9.out.l).mono ?_; rintro e wc_ ⟨rfl, hb⟩; refine ⟨_, rfl, ?_⟩; have n7_ := Aside0.mk (YR.below (YR.below HZ7.out Lift.h) hb); have n8_ := Aside0.mk (YR.below (YR.below HZ8.out Lift.h) hb); have n9_ := Aside0.mk (YR.below (YR.below HZ9.out Lift.h) hb); have nB_ := Aside0.mk (bbL HB9.out hb); clear HZ7 HZ8 HZ9 HB9 hb hc_7_0 hf_7_0 hc_7_1 hf_7_1 hc_7_2 hf_7_2 hc_7_3 hf_7_3 hc_8_0 hf_8_0 hc_8_1 hf_8_1 hc_8_2 hf_8_2 hc_8_3 hf_8_3 hc_9_0 hf_9_0 hc_9_1 hf_9_1 hc_9_2 hf_9_2 hc_9_3 hf_9_3; have HZ7 := n7_; have HZ8 := n8_; have HZ9 := n9_; have HB9 := nB_; clear n7_ n8_ n9_ nB_; obtain ⟨hc_7_0, hc_7_1, hc_7_2, hc_7_3, hf_7_0, hf_7_1, hf_7_2, hf_7_3⟩ := c4o HZ7.out.b; obtain ⟨hc_8_0, hc_8_1, hc_8_2, hc_8_3, hf_8_0, hf_8_1, hf_8_2, hf_8_3⟩ := c4o HZ8.out.b; obtain ⟨hc_9_0, hc_9_1, hc_9_2, hc_9_3, hf_9_0, hf_9_1, hf_9_2, hf_9_3⟩ := c4o HZ9.out.b))
          go_ret
          exact ⟨rfl, blL HB9.out⟩
end Go.Proofs.YtcmphojichgfeaaDoor.QC
