/- The fraction seat: the walk of Parse. -/
import Derived.Test.YtkmffnjmiechfaaDoorFW1
namespace Go.Proofs.YtkmffnjmiechfaaDoor
open Go.Sx Go.RowKit
set_option linter.unusedVariables false
set_option linter.unusedSimpArgs false
set_option maxRecDepth 100000
theorem v61 (s : ByteArray) (hs : s.size ≤ 1000) (w : World) (hg : GG w) : Calls Tryd.prog 61 #[.string s, .string ⟨#[47]⟩] w fun e w' =>
    e = .returned (.tuple #[.string ⟨(Lib.cut s.data.toList [47]).1.toArray⟩, .string ⟨(Lib.cut s.data.toList [47]).2.1.toArray⟩, .bool (Lib.cut s.data.toList [47]).2.2]) ∧ Below w.heap.size w w' := by
  obtain ⟨h1, h2, h3, m, h4⟩ := hg
  exact (Tryd.strings_Cut s ⟨#[47]⟩ m w (by omega) h4).mono fun e w' ⟨he, n, hw⟩ => ⟨he, hw ▸ ⟨rfl, rfl, rfl, Nat.le_refl _, fun _ _ => rfl⟩⟩
/-- What a ParseInt contract says. -/
def PI (A : ByteArray) (n : Int) (o : Bool) : Prop := ∀ w, GG w → Calls Tryd.prog 62 #[.string A, .int .i64 10, .int .i64 64] w fun e w' =>
    ∃ x, e = .returned (.tuple #[.int .i64 n, x]) ∧ (x = .nilIface ∧ o = true ∨ (∃ t p, x = .iface t p) ∧ o = false) ∧ Below w.heap.size w w'
def parD0 (sl o1 : Bool) (n2 : Int) : Int := if (sl && o1) = true then n2 else 1
def parA (s : ByteArray) (sl : Bool) (n1 : Int) (o1 : Bool) (n2 : Int) (o2 : Bool) : Bool := (o1 && (!sl || o2)) && (vF n1 (parD0 sl o1 n2) && (txt n1 (parD0 sl o1 n2)).toList == s.toList)
/-- A block of two numbers that lies in a world. -/
structure Two (w : World) (N : Nat) (a b : Int) : Prop where
  blk : w.heap[N]? = some (.cells #[.int .i64 a, .int .i64 b] 23 (0, 0))
theorem Two.c0 {w : World} {N : Nat} {a b : Int} (h : Two w N a b) : w.cell? ⟨N, 0, none⟩ = some (.int .i64 a) := by simp [World.cell?, h.blk]
theorem Two.c1 {w : World} {N : Nat} {a b : Int} (h : Two w N a b) : w.cell? ⟨N, 1, none⟩ = some (.int .i64 b) := by simp [World.cell?, h.blk]
theorem Two.f0 {w : World} {N : Nat} {a b : Int} (h : Two w N a b) : w.frozen? ⟨N, 0, none⟩ = false := by simp [World.frozen?, h.blk]
theorem Two.f1 {w : World} {N : Nat} {a b : Int} (h : Two w N a b) : w.frozen? ⟨N, 1, none⟩ = false := by simp [World.frozen?, h.blk]
theorem Two.lt {w : World} {N : Nat} {a b : Int} (h : Two w N a b) : N < w.heap.size := (Array.getElem?_eq_some_iff.1 h.blk).1
theorem Two.below {w w' : World} {N : Nat} {a b : Int} (h : Two w N a b) (hb : Below w.heap.size w w') : Two w' N a b := ⟨(hb.block N h.lt).trans h.blk⟩
theorem Two.new (w : World) (a b : Int) : Two (w.alloc (.cells #[.int .i64 a, .int .i64 b] 23)) w.heap.size a b := ⟨Array.getElem?_push_size⟩
theorem Two.alloc {w : World} {N : Nat} {a b : Int} (h : Two w N a b) (o : Obj) : Two (w.alloc o) N a b := ⟨by
  show (w.heap.push o)[N]? = _
  rw [Array.getElem?_push_lt h.lt, ← Array.getElem?_eq_getElem h.lt]
  exact h.blk⟩
theorem Two.set {w : World} {N : Nat} {a b : Int} (h : Two w N a b) (x y : Int) : Two ((w.setCell ⟨N, 0, none⟩ (.int .i64 x)).setCell ⟨N, 1, none⟩ (.int .i64 y)) N x y := ⟨by
  have hb := h.blk
  have hl := h.lt
  simp only [World.setCell, Array.getElem?_modify]
  simp [hb]⟩
theorem Two.set1 {w : World} {N : Nat} {a b : Int} (h : Two w N a b) (y : Int) : Two (w.setCell ⟨N, 1, none⟩ (.int .i64 y)) N a y := ⟨by
  have hb := h.blk
  have hl := h.lt
  simp only [World.setCell, Array.getElem?_modify]
  simp [hb]⟩
theorem Two.far {w : World} {N M : Nat} {a b : Int} {v : Value} (h : Two w N a b) (hM : M ≠ N) (o : Nat) : Two (w.setCell ⟨M, o, none⟩ v) N a b := ⟨by
  have hb := h.blk
  simp only [World.setCell, Array.getElem?_modify]
  rw [if_neg hM]
  exact hb⟩
theorem walk35a (s A B : ByteArray) (sl o1 o2 : Bool) (n1 n2 : Int) (w : World) (hg : GG w)
    (hC : ∀ w, GG w → Calls Tryd.prog 61 #[.string s, .string ⟨#[47]⟩] w fun e w' => e = .returned (.tuple #[.string A, .string B, .bool sl]) ∧ Below w.heap.size w w')
    (hA : PI A n1 o1) (hB : PI B n2 o2) (rn rd re : Int) (hR : Hid (cond (parA s sl n1 o1 n2 o2) (rn = n1 ∧ rd = parD0 sl o1 n2 ∧ re = 0) (rn = 0 ∧ rd = 0 ∧ re = 2))) :
    Calls Tryd.prog 35 #[.string s] w fun e w' => e = .returned (.tuple #[.agg #[.int .i64 rn, .int .i64 rd], .int .i64 re]) ∧ Below w.heap.size w w' := by
  have HG : Hid (GG w) := hg
  clear hg
  have HA : Hid (PI A n1 o1) := hA
  have HB : Hid (PI B n2 o2) := hB
  clear hA hB
  go_enter Tryd.func35, Tryd.ntmps35
  go_wp2_with (go_at_call 61; refine (hC _ (GG.mono HG.out (by go_grown))).mono ?_; rintro e w1 ⟨rfl, hb1⟩)
  have HB1 : Hid (Below w.heap.size w w1) := below_tr (by go_grown) hb1
  have T1 : Hid (Two w1 w.heap.size 0 0) := (Two.new w 0 0).below hb1
  clear hC hb1
  have HG1 : Hid (GG w1) := GG.mono HG.out HB1.out
  have hA := HA.out w1 HG1.out
  refine hA.mono ?_
  rintro e w2 ⟨x, rfl, hx, hb2⟩
  have HB2 : Hid (Below w.heap.size w w2) := below_tr HB1.out hb2
  have T2 : Hid (Two w2 w.heap.size 0 0) := T1.out.below hb2
  have HG2 : Hid (GG w2) := GG.mono HG.out HB2.out
  clear hA hb2 T1
  cases o1
  · obtain ⟨t, p, rfl⟩ : ∃ t p, x = .iface t p := by
      rcases hx with ⟨_, h⟩ | h
      · cases h
      · exact h.1
    clear hx
    have r0 := T2.out.c0
    have r1 := T2.out.c1
    have r2 := T2.out.f0
    have r3 := T2.out.f1
    have rl := T2.out.lt
    have q := (T2.out.set 0 0).alloc (.cells #[.int .i64 n1, .int .i64 1] 23)
    have q0 : Hid _ := q.c0
    have q1 : Hid _ := q.c1
    clear q
    have HB3 : Hid (Below w.heap.size w (((w2.setCell ⟨w.heap.size, 0, none⟩ (.int .i64 0)).setCell ⟨w.heap.size, 1, none⟩ (.int .i64 0)).alloc (.cells #[.int .i64 n1, .int .i64 1] 23))) := by
      have hb := HB2.out
      have hs := hb.size
      show Below _ _ _
      go_grown
    cases sl <;> (
    go_wp2
    (try simp only [Exit.inBlock, Exit.then])
    refine bodyPost_ret (by simp [results, Tryd.results35, go_sem, q0.out, q1.out]; try rfl) rfl ?_
    obtain ⟨e1, e2, e3⟩ := hR.out
    rw [e1, e2, e3]
    exact ⟨rfl, HB3.out⟩)
  · obtain rfl : x = .nilIface := by
      rcases hx with h | ⟨_, h⟩
      · exact h.1
      · cases h
    clear hx
    cases sl
    · have r0 := T2.out.c0
      have r1 := T2.out.c1
      have r2 := T2.out.f0
      have r3 := T2.out.f1
      have rl := T2.out.lt
      go_wp2_with fail
      refine (walk39 n1 (1) _ 0 _ (GG.mono HG.out (by have hb := HB2.out; have hs := hb.size; show Below _ _ _; go_grown)) (by go_simp) (by go_simp)).mono ?_
      rintro e w4 ⟨rfl, hb4⟩
      have HB4 : Hid (Below w.heap.size w w4) := below_tr (by have hb := HB2.out; have hs := hb.size; show Below _ _ _; go_grown) hb4
      have TF4 : Hid (Two w4 w2.heap.size n1 (1)) := (((Two.new w2 n1 1).alloc _)).below hb4
      have TR4 : Hid (Two w4 w.heap.size 0 0) := (((T2.out.alloc _).alloc _)).below hb4
      have HG4 : Hid (GG w4) := GG.mono HG.out HB4.out
      have NE : Hid (w.heap.size ≠ w2.heap.size) := by
        show _ ≠ _
        have := T2.out.lt
        omega
      clear hb4
      cases hv : vF n1 (1)
      · have ac : Hid (parA s false n1 true n2 o2 = false) := by
          show _ = _
          simp [parA, parD0, hv]
        have r0 := TR4.out.c0
        have r1 := TR4.out.c1
        have r2 := TR4.out.f0
        have r3 := TR4.out.f1
        have r4 := TR4.out.lt
        have q := TR4.out.set (0) (0)
        have q0 : Hid _ := q.c0
        have q1 : Hid _ := q.c1
        clear q
        have HB9 : Hid (Below w.heap.size w ((w4.setCell ⟨w.heap.size, 0, none⟩ (.int .i64 (0))).setCell ⟨w.heap.size, 1, none⟩ (.int .i64 (0)))) := by
          have hb := HB4.out
          have hs := hb.size
          show Below _ _ _
          go_grown
        go_wp2
        (try simp only [Exit.inBlock, Exit.then])
        refine bodyPost_ret (by simp [results, Tryd.results35, go_sem, q0.out, q1.out]; try rfl) rfl ?_
        have hr := hR.out
        rw [ac.out] at hr
        obtain ⟨e1, e2, e3⟩ := hr
        rw [e1, e2, e3]
        exact ⟨rfl, HB9.out⟩
      · have f0 := TF4.out.c0
        have f1 := TF4.out.c1
        have f4 := TF4.out.lt
        go_wp2_with fail
        clear f0 f1 f4
        have hv' := hv
        rw [vF_iff] at hv'
        refine (v63 n1 (1) w4 HG4.out (by unfold txtP; rw [Bool.and_eq_true, ii_iff, ii_iff]; omega)).mono ?_
        rintro e w5 ⟨rfl, hb5⟩
        have HB5 : Hid (Below w.heap.size w w5) := below_tr HB4.out hb5
        have TF5 : Hid (Two w5 w2.heap.size n1 (1)) := TF4.out.below hb5
        have TR5 : Hid (Two w5 w.heap.size 0 0) := TR4.out.below hb5
        clear hb5 hv'
        cases ht : ((txt n1 (1)).toList == s.toList)
        · have ac : Hid (parA s false n1 true n2 o2 = false) := by
            show _ = _
            simp [parA, parD0, hv, ht]
          have r0 := TR5.out.c0
          have r1 := TR5.out.c1
          have r2 := TR5.out.f0
          have r3 := TR5.out.f1
          have r4 := TR5.out.lt
          have q := TR5.out.set (0) (0)
          have q0 : Hid _ := q.c0
          have q1 : Hid _ := q.c1
          clear q
          have HB9 : Hid (Below w.heap.size w ((w5.setCell ⟨w.heap.size, 0, none⟩ (.int .i64 (0))).setCell ⟨w.heap.size, 1, none⟩ (.int .i64 (0)))) := by
            have hb := HB5.out
            have hs := hb.size
            show Below _ _ _
            go_grown
          go_wp2
          (try simp only [Exit.inBlock, Exit.then])
          refine bodyPost_ret (by simp [results, Tryd.results35, go_sem, q0.out, q1.out]; try rfl) rfl ?_
          have hr := hR.out
          rw [ac.out] at hr
          obtain ⟨e1, e2, e3⟩ := hr
          rw [e1, e2, e3]
          exact ⟨rfl, HB9.out⟩
        · have ac : Hid (parA s false n1 true n2 o2 = true) := by
            show _ = _
            simp [parA, parD0, hv, ht]
          have r0 := TR5.out.c0
          have r1 := TR5.out.c1
          have r2 := TR5.out.f0
          have r3 := TR5.out.f1
          have r4 := TR5.out.lt
          have f0 := TF5.out.c0
          have f1 := TF5.out.c1
          have f2 := TF5.out.f0
          have f3 := TF5.out.f1
          have f4 := TF5.out.lt
          have q := TR5.out.set (n1) (1)
          have q0 : Hid _ := q.c0
          have q1 : Hid _ := q.c1
          clear q
          have HB9 : Hid (Below w.heap.size w ((w5.setCell ⟨w.heap.size, 0, none⟩ (.int .i64 (n1))).setCell ⟨w.heap.size, 1, none⟩ (.int .i64 (1)))) := by
            have hb := HB5.out
            have hs := hb.size
            show Below _ _ _
            go_grown
          go_wp2
          (try simp only [Exit.inBlock, Exit.then])
          refine bodyPost_ret (by simp [results, Tryd.results35, go_sem, q0.out, q1.out]; try rfl) rfl ?_
          have hr := hR.out
          rw [ac.out] at hr
          obtain ⟨e1, e2, e3⟩ := hr
          rw [e1, e2, e3]
          exact ⟨rfl, HB9.out⟩
    · have r0 := T2.out.c0
      have r1 := T2.out.c1
      have r4 := T2.out.lt
      go_wp2_with fail
      clear r0 r1 r4
      have NE : Hid (w.heap.size ≠ w2.heap.size) := by
        show _ ≠ _
        have := T2.out.lt
        omega
      refine (HB.out _ (GG.mono HG2.out (by go_grown))).mono ?_
      rintro e w3 ⟨x, rfl, hx, hb3⟩
      have HB3 : Hid (Below w.heap.size w w3) := below_tr (by have hb := HB2.out; have hs := hb.size; show Below _ _ _; go_grown) hb3
      have TF3 : Hid (Two w3 w2.heap.size n1 1) := (Two.new w2 n1 1).below hb3
      have TR3 : Hid (Two w3 w.heap.size 0 0) := (T2.out.alloc _).below hb3
      have HG3 : Hid (GG w3) := GG.mono HG.out HB3.out
      have LE : Hid (w.heap.size < w2.heap.size) := T2.out.lt
      have TR3' : Hid (Two (w3.setCell ⟨w2.heap.size, 1, none⟩ (.int .i64 n2)) w.heap.size 0 0) := TR3.out.far (fun h => NE.out h.symm) 1
      have TF3' : Hid (Two (w3.setCell ⟨w2.heap.size, 1, none⟩ (.int .i64 n2)) w2.heap.size n1 n2) := TF3.out.set1 n2
      have HB3' : Hid (Below w.heap.size w (w3.setCell ⟨w2.heap.size, 1, none⟩ (.int .i64 n2))) := by
        have hb := HB3.out
        have hl := LE.out
        show Below _ _ _
        go_grown
      clear hb3 HB
      cases o2
      · obtain ⟨t, p, rfl⟩ : ∃ t p, x = .iface t p := by
          rcases hx with ⟨_, h⟩ | h
          · cases h
          · exact h.1
        clear hx
        have ac : Hid (parA s true n1 true n2 false = false) := by
          show _ = _
          rfl
        have ne := NE.out
        have f0 := TF3.out.c0
        have f1 := TF3.out.c1
        have f2 := TF3.out.f0
        have f3 := TF3.out.f1
        have f4 := TF3.out.lt
        have r0 := TR3.out.c0
        have r1 := TR3.out.c1
        have r2 := TR3.out.f0
        have r3 := TR3.out.f1
        have r4 := TR3.out.lt
        have q := TR3'.out.set (0) (0)
        have q0 : Hid _ := q.c0
        have q1 : Hid _ := q.c1
        clear q
        have HB9 : Hid (Below w.heap.size w (((w3.setCell ⟨w2.heap.size, 1, none⟩ (.int .i64 n2)).setCell ⟨w.heap.size, 0, none⟩ (.int .i64 (0))).setCell ⟨w.heap.size, 1, none⟩ (.int .i64 (0)))) := by
          have hb := HB3'.out
          have hs := hb.size
          show Below _ _ _
          go_grown
        go_wp2
        (try simp only [Exit.inBlock, Exit.then])
        refine bodyPost_ret (by simp [results, Tryd.results35, go_sem, q0.out, q1.out]; try rfl) rfl ?_
        have hr := hR.out
        rw [ac.out] at hr
        obtain ⟨e1, e2, e3⟩ := hr
        rw [e1, e2, e3]
        exact ⟨rfl, HB9.out⟩
      · obtain rfl : x = .nilIface := by
          rcases hx with h | ⟨_, h⟩
          · exact h.1
          · cases h
        clear hx
        have ne := NE.out
        have f0 := TF3.out.c0
        have f1 := TF3.out.c1
        have f2 := TF3.out.f0
        have f3 := TF3.out.f1
        have f4 := TF3.out.lt
        have r0 := TR3.out.c0
        have r1 := TR3.out.c1
        have r2 := TR3.out.f0
        have r3 := TR3.out.f1
        have r4 := TR3.out.lt
        go_wp2_with fail
        clear ne f0 f1 f2 f3 f4 r0 r1 r2 r3 r4
        clear NE
        refine (walk39 n1 (n2) _ 0 _ (GG.mono HG.out (by have hb := HB3'.out; have hs := hb.size; show Below _ _ _; go_grown)) (by go_simp) (by go_simp)).mono ?_
        rintro e w4 ⟨rfl, hb4⟩
        have HB4 : Hid (Below w.heap.size w w4) := below_tr (by have hb := HB3'.out; have hs := hb.size; show Below _ _ _; go_grown) hb4
        have TF4 : Hid (Two w4 w2.heap.size n1 (n2)) := ((TF3'.out.alloc _)).below hb4
        have TR4 : Hid (Two w4 w.heap.size 0 0) := ((TR3'.out.alloc _)).below hb4
        have HG4 : Hid (GG w4) := GG.mono HG.out HB4.out
        have NE : Hid (w.heap.size ≠ w2.heap.size) := by
          show _ ≠ _
          have := T2.out.lt
          omega
        clear hb4
        cases hv : vF n1 (n2)
        · have ac : Hid (parA s true n1 true n2 true = false) := by
            show _ = _
            simp [parA, parD0, hv]
          have r0 := TR4.out.c0
          have r1 := TR4.out.c1
          have r2 := TR4.out.f0
          have r3 := TR4.out.f1
          have r4 := TR4.out.lt
          have q := TR4.out.set (0) (0)
          have q0 : Hid _ := q.c0
          have q1 : Hid _ := q.c1
          clear q
          have HB9 : Hid (Below w.heap.size w ((w4.setCell ⟨w.heap.size, 0, none⟩ (.int .i64 (0))).setCell ⟨w.heap.size, 1, none⟩ (.int .i64 (0)))) := by
            have hb := HB4.out
            have hs := hb.size
            show Below _ _ _
            go_grown
          go_wp2
          (try simp only [Exit.inBlock, Exit.then])
          refine bodyPost_ret (by simp [results, Tryd.results35, go_sem, q0.out, q1.out]; try rfl) rfl ?_
          have hr := hR.out
          rw [ac.out] at hr
          obtain ⟨e1, e2, e3⟩ := hr
          rw [e1, e2, e3]
          exact ⟨rfl, HB9.out⟩
        · have f0 := TF4.out.c0
          have f1 := TF4.out.c1
          have f4 := TF4.out.lt
          go_wp2_with fail
          clear f0 f1 f4
          have hv' := hv
          rw [vF_iff] at hv'
          refine (v63 n1 (n2) w4 HG4.out (by unfold txtP; rw [Bool.and_eq_true, ii_iff, ii_iff]; omega)).mono ?_
          rintro e w5 ⟨rfl, hb5⟩
          have HB5 : Hid (Below w.heap.size w w5) := below_tr HB4.out hb5
          have TF5 : Hid (Two w5 w2.heap.size n1 (n2)) := TF4.out.below hb5
          have TR5 : Hid (Two w5 w.heap.size 0 0) := TR4.out.below hb5
          clear hb5 hv'
          cases ht : ((txt n1 (n2)).toList == s.toList)
          · have ac : Hid (parA s true n1 true n2 true = false) := by
              show _ = _
              simp [parA, parD0, hv, ht]
            have r0 := TR5.out.c0
            have r1 := TR5.out.c1
            have r2 := TR5.out.f0
            have r3 := TR5.out.f1
            have r4 := TR5.out.lt
            have q := TR5.out.set (0) (0)
            have q0 : Hid _ := q.c0
            have q1 : Hid _ := q.c1
            clear q
            have HB9 : Hid (Below w.heap.size w ((w5.setCell ⟨w.heap.size, 0, none⟩ (.int .i64 (0))).setCell ⟨w.heap.size, 1, none⟩ (.int .i64 (0)))) := by
              have hb := HB5.out
              have hs := hb.size
              show Below _ _ _
              go_grown
            go_wp2
            (try simp only [Exit.inBlock, Exit.then])
            refine bodyPost_ret (by simp [results, Tryd.results35, go_sem, q0.out, q1.out]; try rfl) rfl ?_
            have hr := hR.out
            rw [ac.out] at hr
            obtain ⟨e1, e2, e3⟩ := hr
            rw [e1, e2, e3]
            exact ⟨rfl, HB9.out⟩
          · have ac : Hid (parA s true n1 true n2 true = true) := by
              show _ = _
              simp [parA, parD0, hv, ht]
            have r0 := TR5.out.c0
            have r1 := TR5.out.c1
            have r2 := TR5.out.f0
            have r3 := TR5.out.f1
            have r4 := TR5.out.lt
            have f0 := TF5.out.c0
            have f1 := TF5.out.c1
            have f2 := TF5.out.f0
            have f3 := TF5.out.f1
            have f4 := TF5.out.lt
            have q := TR5.out.set (n1) (n2)
            have q0 : Hid _ := q.c0
            have q1 : Hid _ := q.c1
            clear q
            have HB9 : Hid (Below w.heap.size w ((w5.setCell ⟨w.heap.size, 0, none⟩ (.int .i64 (n1))).setCell ⟨w.heap.size, 1, none⟩ (.int .i64 (n2)))) := by
              have hb := HB5.out
              have hs := hb.size
              show Below _ _ _
              go_grown
            go_wp2
            (try simp only [Exit.inBlock, Exit.then])
            refine bodyPost_ret (by simp [results, Tryd.results35, go_sem, q0.out, q1.out]; try rfl) rfl ?_
            have hr := hR.out
            rw [ac.out] at hr
            obtain ⟨e1, e2, e3⟩ := hr
            rw [e1, e2, e3]
            exact ⟨rfl, HB9.out⟩
end Go.Proofs.YtkmffnjmiechfaaDoor
