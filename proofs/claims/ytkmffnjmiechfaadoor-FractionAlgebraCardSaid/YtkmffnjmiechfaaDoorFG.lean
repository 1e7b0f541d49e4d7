/- The fraction seat: what the listed variables give the walks; from a law's calls to its row. -/
import Derived.Test.YtkmffnjmiechfaaDoorSx16
import Derived.Test.YtkmffnjmiechfaaDoorRows
import Derived.ProofKit
import Derived.LaidMore
import Derived.OpenShut
import Derived.Stop.LaidErr
import Derived.Lib.LaidTab
namespace Go.Proofs.YtkmffnjmiechfaaDoor
open Go.Sx Go.ChangeShapes Go.WideShapes Go.ChangeAt Go.RowKit
set_option linter.unusedVariables false
set_option linter.unusedSimpArgs false
set_option maxRecDepth 100000
theorem own : ownKnob Tryd.prog.godebug = none := by kernel_rfl
theorem laidOut : laidOutB Tryd.prog = true := by kernel_rfl
abbrev laidL : List (String × DataW Unit) := [("math/bits.deBruijn32tab", Rows.laid_math_bits_deBruijn32tab), ("math/bits.deBruijn64tab", Rows.laid_math_bits_deBruijn64tab), ("internal/strconv.uint64pow10", Rows.laid_internal_strconv_uint64pow10), ("strconv.ErrRange", Rows.laid_strconv_ErrRange), ("strconv.ErrSyntax", Rows.laid_strconv_ErrSyntax)]
theorem door_met (os : Os) (args : Array Value) : laidMet Tryd.prog laidL ((World.doorLaid Tryd.prog 400 os).forCall (fun _ _ => 0) ⟨#[], args, []⟩).memory :=
  laidMet_of_run' 8 (by kernel_rfl) (by kernel_rfl)
theorem max_of {W : World} (h : W.ShapedOpen Tryd.prog) : ∃ m, W.cell? ⟨2, 0, none⟩ = some (.int .i64 m) := by
  obtain ⟨h1, _⟩ := h
  have hz : ((begin Tryd.prog (fun _ _ => 0) default).world.heap[2]?).bind Obj.row? = some (#[.int .i64 0], 3) := by kernel_rfl
  obtain ⟨cs, hc, hsz, hb⟩ := h1 2 _ _ (of_decide_eq_true (by kernel_rfl)) hz
  obtain ⟨ts, hts, ⟨n, hn⟩, hv⟩ := hb (by kernel_rfl)
  have hts' : Tryd.prog.cellTypes Tryd.prog.depth 3 = some [3] := by kernel_rfl
  rw [hts'] at hts
  cases hts
  have h0 : 0 < cs.size := by rw [hsz]; decide
  have hx : cs[0]? = some cs[0] := Array.getElem?_eq_getElem h0
  obtain ⟨u, hu, ho⟩ := hv 0 _ hx
  have hu3 : u = 3 := by simpa using hu.symm
  subst hu3
  unfold Cell.ok at ho
  rw [Tryd.underlying3] at ho
  have hcell : W.cell? ⟨2, 0, none⟩ = some cs[0] := by
    simp only [World.cell?, hc]
    exact hx
  generalize cs[0] = v at *
  cases v <;> try (exact ho.elim)
  rename_i k m
  simp only at ho
  obtain ⟨rfl, _⟩ := ho
  exact ⟨m, hcell⟩
theorem star : "*" ++ "errors.errorString" = "*errors.errorString" := by decide
theorem row124 (u : TypeId) (h : Tryd.prog.typeName? 3 u = some "*errors.errorString") : u = 124 :=
  typeName_ptr_named (nm := "errors.errorString") (by rw [star]; kernel_rfl) (by kernel_rfl) (by decide) u (by rw [star]; exact h)
theorem gg_of {W : World} (hL : laidMet Tryd.prog laidL W) (hS : W.ShapedOpen Tryd.prog) : GG W := by
  have h3 := hL.tail.tail
  have h4 := h3.tail
  have h5 := h4.tail
  have e10 : (Rows.laid_internal_strconv_uint64pow10 : DataW Unit) = Lib.tabData .u64 ((List.range 20).map fun i => ((10 ^ i : Nat) : Int)) := by rfl
  rw [e10] at h3
  have t1 := Lib.tabIs_of_head (g := 5) (t := 117) (e := 48) (n := 20) (by kernel_rfl) (by kernel_rfl) Tryd.underlying117 Tryd.underlying48 (by kernel_rfl) (by kernel_rfl) h3
  obtain ⟨a1, s1, v1, _⟩ := laid_sentinel (g := 4) (ti := 70) (tp := 124) (te := 126) (ts := 9) h4 (by kernel_rfl) (by kernel_rfl) Tryd.underlying70 row124 Tryd.underlying124 Tryd.underlying126 rfl rfl Tryd.underlying9 (by kernel_rfl) (by kernel_rfl)
  obtain ⟨a2, s2, v2, _⟩ := laid_sentinel (g := 3) (ti := 70) (tp := 124) (te := 126) (ts := 9) h5 (by kernel_rfl) (by kernel_rfl) Tryd.underlying70 row124 Tryd.underlying124 Tryd.underlying126 rfl rfl Tryd.underlying9 (by kernel_rfl) (by kernel_rfl)
  exact ⟨t1, ⟨_, _, v2⟩, ⟨_, _, v1⟩, max_of hS⟩
theorem lawG_lifted {os : Os} (started : os.Started) {H : Type} {enc : TypeId × Value → H} {f : Nat} {fn : Func} (hfn : Tryd.prog.funcs[f]? = some fn) (noInit : Tryd.prog.inits.idxOf? f = none)
    {s : ChangeSpec} (hvars : s.vars = []) {ss : List Sh} {rt : TypeId} (hsh : fn.params.toList.mapM (flatSh Tryd.prog) = some ss) (hread : fn.params.toList.all (fun t => Tryd.prog.readableRec t && decide (t < Tryd.prog.types.size)) = true)
    (hres : fn.resultTypes = #[rt]) (hrt : Tryd.prog.underlying rt = some .bool)
    (hspec : ∀ ds : List (DataW H), ds.length = fn.params.toList.length → (s.fn H ds).results = [.lit (.bool true)] ∧ (s.fn H ds).args = ds ∧ (s.fn H ds).vars = [])
    (hwit : ∃ (w : World) (tape : Tape) (i : Input), w.os = os ∧ (w.forCall tape i).Shaped Tryd.prog ∧ i.vars = [] ∧ Input.okWide Tryd.prog (w.forCall tape i) .any w.heap.size f i ∧
      ((s.pre enc Tryd.prog fn [] false (w.forCall tape i).memory i.args ∧ laidMet Tryd.prog laidL (w.forCall tape i).memory) ∧ sizedMet enc Tryd.prog fn (OpenSpec.ofChange s) false (w.forCall tape i).memory i.args) ∧ ({} : Assume).holds Tryd.prog (lone (Frame.enter Tryd.prog f i.args .normal) [] (w.forCall tape i)))
    (hcall : ∀ l, InRange ss l → ∀ W, GG W → Calls Tryd.prog f (packs ss l).toArray W fun e w' => e = .returned (.bool true) ∧ Below W.heap.size W w') :
    ReturnsInHanded {} Tryd.checked os f .any (fun w args => (s.pre enc Tryd.prog fn [] false w args ∧ laidMet Tryd.prog laidL w) ∧ sizedMet enc Tryd.prog fn (OpenSpec.ofChange s) false w args)
      (s.post enc Tryd.prog fn false true false false) := by
  refine returnsInHanded_of_calls (C := Tryd.checked) own started noInit hwit ?_
  intro w tape i _ hsh0 _ hok hpre hholds
  obtain ⟨_, _, _, fn', hfn', _, _, _, _, hval⟩ := hok
  have e : fn' = fn := Option.some.inj (hfn'.symm.trans hfn)
  subst e
  obtain ⟨⟨⟨ds, gs, before, hw, hc⟩, hx⟩, hz⟩ := hpre
  have hw' := DataW.Whole.of_heap (w' := w.forCall tape i) (by rfl) hw
  have hL : laidMet Tryd.prog laidL (w.forCall tape i) := hx.of_heap (by rfl)
  have hG := gg_of hL hsh0
  refine (law_post (A := Tryd.checked) laidOut hvars hsh hread hres hrt hspec (fun l hl => hcall l hl _ hG) hval hw').mono fun e W' ⟨v, he, hp⟩ => ?_
  subst he
  exact ChangeSpec.post_blind hp
end Go.Proofs.YtkmffnjmiechfaaDoor
