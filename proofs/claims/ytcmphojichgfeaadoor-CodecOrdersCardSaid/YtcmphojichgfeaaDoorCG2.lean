/- The codec seat: a law's parameter, opened: the tree that it reads as. -/
import Derived.Test.YtcmphojichgfeaaDoorCG
import Derived.ChangeSame
import Derived.ChangeArms
namespace Go.Proofs.YtcmphojichgfeaaDoor
open Go.ChangeShapes Go.WideShapes Go.ChangeAt Go.RowKit QC Go.Proofs.YtcmphojichgfeaaDoorW.PrintWords
open Go.ChangeMaps (open_string)
set_option linter.unusedVariables false
set_option linter.unusedSimpArgs false
set_option maxRecDepth 100000
def i64ok (n : Int) : Prop := -9223372036854775808 ≤ n ∧ n ≤ 9223372036854775807
mutual
def okV : S24 → Prop
  | ⟨a, b, c, l⟩ => i64ok a ∧ i64ok b ∧ c.size ≤ 9223372036854775807 ∧ l.length ≤ 9223372036854775807 ∧ okL l
def okL : List S24 → Prop
  | [] => True
  | x :: l => okV x ∧ okL l
end
theorem okL_of : ∀ {l : List S24}, (∀ x ∈ l, okV x) → okL l
  | [], _ => trivial
  | x :: l, h => ⟨h x (List.mem_cons_self ..), okL_of fun y hy => h y (List.mem_cons_of_mem _ hy)⟩
theorem i64_wf {n : Int} (h : (Lit.int .i64 n).wf = true) : i64ok n := by
  simp only [Lit.wf, Bool.and_eq_true, decide_eq_true_eq] at h
  have e1 : IntKind.i64.min = -9223372036854775808 := by decide
  have e2 : IntKind.i64.max = 9223372036854775807 := by decide
  rw [e1, e2] at h
  exact h
theorem cells24 : Tryd.prog.cellsOf 24 = 4 := by kernel_rfl
theorem cells3 : Tryd.prog.cellsOf 3 = 1 := by kernel_rfl
theorem cells2 : Tryd.prog.cellsOf 2 = 1 := by kernel_rfl
theorem cells9 : Tryd.prog.cellsOf 9 = 1 := by kernel_rfl
theorem cells22 : Tryd.prog.cellsOf 22 = 1 := by kernel_rfl
theorem add2 (a : Addr) (i j : Nat) : (a.add i).add j = a.add (i + j) := by
  unfold Addr.add
  by_cases hi : i = 0 <;> by_cases hj : j = 0 <;> simp_all <;> omega
section
variable {H : Type} {enc : TypeId × Value → H} {W : World} {sp : Nat → Bool} {held : Bool}
theorem open24 : ∀ (fuel : Nat) (cs : List Value) (x : DataW H × List MemPlace), DataW.trod enc Tryd.prog W 0 sp held fuel 24 cs = some x → ∃ y : S24, k24.K W y cs ∧ okV y := by
  intro fuel
  induction fuel using Nat.strongRecOn with
  | _ fuel ih =>
    intro cs x h
    obtain ⟨xs, n, rfl, rfl, hl, hlen, hf⟩ := DataW.trod_struct Tryd.underlying24 h
    rw [cells24] at hl
    match cs, hl with
    | [v0, v1, v2, v3], _ =>
    have hsz : xs.length = 4 := hlen
    have f0 : DataW.trod enc Tryd.prog W 0 sp held n 3 [v0] = xs[0]? := by
      have h : DataW.trod enc Tryd.prog W 0 sp held n 3 ([v0, v1, v2, v3].drop 0 |>.take (Tryd.prog.cellsOf 3)) = xs[0]? := hf 0 _ rfl
      rw [cells3] at h
      exact h
    have f1 : DataW.trod enc Tryd.prog W 0 sp held n 2 [v1] = xs[1]? := by
      have h : DataW.trod enc Tryd.prog W 0 sp held n 2 ([v0, v1, v2, v3].drop 1 |>.take (Tryd.prog.cellsOf 2)) = xs[1]? := hf 1 _ rfl
      rw [cells2] at h
      exact h
    have f2 : DataW.trod enc Tryd.prog W 0 sp held n 9 [v2] = xs[2]? := by
      have h : DataW.trod enc Tryd.prog W 0 sp held n 9 ([v0, v1, v2, v3].drop 2 |>.take (Tryd.prog.cellsOf 9)) = xs[2]? := hf 2 _ rfl
      rw [cells9] at h
      exact h
    have f3 : DataW.trod enc Tryd.prog W 0 sp held n 22 [v3] = xs[3]? := by
      have h : DataW.trod enc Tryd.prog W 0 sp held n 22 ([v0, v1, v2, v3].drop 3 |>.take (Tryd.prog.cellsOf 22)) = xs[3]? := hf 3 _ rfl
      rw [cells22] at h
      exact h
    rw [List.getElem?_eq_getElem (by omega)] at f0 f1 f2 f3
    obtain ⟨n0, e0, _, w0⟩ := DataW.trod_int Tryd.underlying3 f0
    obtain ⟨n1, e1, _, w1⟩ := DataW.trod_int Tryd.underlying2 f1
    obtain ⟨s2, e2, _, w2⟩ := DataW.trod_string Tryd.underlying9 f2
    obtain rfl : v0 = .int .i64 n0 := by simpa using e0
    obtain rfl : v1 = .int .i64 n1 := by simpa using e1
    obtain rfl : v2 = .string s2 := by simpa using e2
    have ml : maxLen = 9223372036854775807 := by decide
    rw [ml] at w2
    rcases DataW.trod_slice Tryd.underlying22 f3 with ⟨e3, _⟩ | ⟨a, len, cap, elems, rest, m, hm, e3, _, hb, hl1, hl2, hel, hall, _, _⟩
    · obtain rfl : v3 = .slice none 0 0 := by simpa using e3
      refine ⟨⟨n0, n1, s2, []⟩, k24_mk W ⟨n0, n1, s2, []⟩ (Nat.le_refl _) ⟨rfl, by simp, fun h => absurd h (by simp)⟩, i64_wf w0, i64_wf w1, w2, by simp, trivial⟩
    · obtain rfl : v3 = .slice (some a) len cap := by simpa using e3
      rw [ml] at hl2
      rw [cells24] at hall
      have each : ∀ i, ∃ q : S24 × List Value, i < len → (q.2.length = 4 ∧ k24.K W q.1 q.2 ∧ okV q.1 ∧ ∀ j u, q.2[j]? = some u → W.cell? (a.add (i * 4 + j)) = some u) := by
        intro i
        by_cases hi : i < len
        · have hi2 := hall i hi
          rw [List.getElem?_eq_getElem (by omega)] at hi2
          obtain ⟨c, hc, ht⟩ := Option.bind_eq_some_iff.1 hi2
          obtain ⟨_, hcl, hcc⟩ := World.cells?_some hc
          obtain ⟨y, hy1, hy2⟩ := ih m (by omega) c _ ht
          refine ⟨(y, c), fun _ => ⟨hcl, hy1, hy2, fun j u hj => ?_⟩⟩
          have hjl : j < 4 := by rw [← hcl]; exact (List.getElem?_eq_some_iff.1 hj).1
          rw [← add2, hcc j hjl]
          exact hj
        · exact ⟨(z24, []), fun h => absurd h hi⟩
      have hsp := fun i => Classical.choose_spec (each i)
      generalize hqq : (fun i => Classical.choose (each i)) = q at *
      have hsp' : ∀ i, i < len → ((q i).2.length = 4 ∧ k24.K W (q i).1 (q i).2 ∧ okV (q i).1 ∧ ∀ j u, (q i).2[j]? = some u → W.cell? (a.add (i * 4 + j)) = some u) := by
        intro i hi
        have := hsp i hi
        rw [← hqq]
        exact this
      have hln : ((List.range len).map fun i => (q i).1).length = len := by simp
      refine ⟨⟨n0, n1, s2, (List.range len).map fun i => (q i).1⟩, ?_, i64_wf w0, i64_wf w1, w2, by rw [hln]; omega, okL_of fun y hy => ?_⟩
      · have hk := k24_mk W ⟨n0, n1, s2, (List.range len).map fun i => (q i).1⟩ (A3 := some a) (c3 := cap) (by rw [hln]; exact hl1) ⟨rfl, by rw [hln]; omega, fun _ => ⟨a, rfl, fun j p hj => ?_⟩⟩
        · rw [hln] at hk
          exact hk
        · have hjl : j < len := by rw [← hln]; exact (List.getElem?_eq_some_iff.1 hj).1
          rw [List.getElem?_map, List.getElem?_range hjl] at hj
          cases hj
          obtain ⟨h1, h2, _, h4⟩ := hsp' j hjl
          exact ⟨_, h1, h2, h4⟩
      · obtain ⟨i, hi, rfl⟩ := List.mem_map.1 hy
        exact (hsp' i (List.mem_range.1 hi)).2.2.1
/-- A tree parameter. -/
theorem param24 {v : Value} {d : DataW H} {p : List MemPlace} (h : DataW.Trod enc Tryd.prog W 0 sp held 24 v d p) :
    ∃ (y : S24) (A : Option Addr) (c : Nat), v = .agg #[.int .i64 y.f0, .int .i64 y.f1, .string y.f2, .slice A y.f3.length c] ∧ y.f3.length ≤ c ∧ Kd.C k24 W A y.f3.length y.f3 ∧ okV y := by
  obtain ⟨fuel, hf⟩ := h
  obtain ⟨y, hk, ho⟩ := open24 fuel _ _ hf
  obtain ⟨A, c, hcs, hl, hC⟩ := k24_open hk
  refine ⟨y, A, c, ?_, hl, hC, ho⟩
  cases v <;> simp [Value.cells] at hcs
  rename_i cs
  congr 1
  cases cs
  simp_all
theorem param9 {b0 : Nat} {r : Reach} {v : Value} {d : DataW H} {p : List MemPlace} (hv : Value.okWide Tryd.prog W r b0 9 v) (h : DataW.Trod enc Tryd.prog W 0 sp held 9 v d p) : ∃ s : ByteArray, v = .string s ∧ s.size ≤ 9223372036854775807 := by
  obtain ⟨s, e, _, _, hs⟩ := open_string Tryd.underlying9 hv h
  have ml : maxLen = 9223372036854775807 := by decide
  rw [ml] at hs
  exact ⟨s, e, hs⟩
end
end Go.Proofs.YtcmphojichgfeaaDoor
