/- The fraction seat: the contract of Parse, and the walk of the reference's Parse. -/
import Derived.Test.YtkmffnjmiechfaaDoorFW2
import Derived.Test.YtkmffnjmiechfaaDoorFM4
namespace Go.Proofs.YtkmffnjmiechfaaDoor
open Go.Sx Go.RowKit
set_option linter.unusedVariables false
set_option linter.unusedSimpArgs false
set_option maxRecDepth 100000
theorem par_main (s : ByteArray) : cond (parA s (Lib.cut s.data.toList [47]).2.2 (pInt (Lib.cut s.data.toList [47]).1).1 (pInt (Lib.cut s.data.toList [47]).1).2 (pInt (Lib.cut s.data.toList [47]).2.1).1 (pInt (Lib.cut s.data.toList [47]).2.1).2)
    (parN s = (pInt (Lib.cut s.data.toList [47]).1).1 ∧ parD s = parD0 (Lib.cut s.data.toList [47]).2.2 (pInt (Lib.cut s.data.toList [47]).1).2 (pInt (Lib.cut s.data.toList [47]).2.1).1 ∧ parE s = 0) (parN s = 0 ∧ parD s = 0 ∧ parE s = 2) := by
  cases h : parA s (Lib.cut s.data.toList [47]).2.2 (pInt (Lib.cut s.data.toList [47]).1).1 (pInt (Lib.cut s.data.toList [47]).1).2 (pInt (Lib.cut s.data.toList [47]).2.1).1 (pInt (Lib.cut s.data.toList [47]).2.1).2 with
  | true =>
    simp only [parA, Bool.and_eq_true] at h
    exact par_yes h.2.1 ((ba_beq _ _).1 h.2.2)
  | false =>
    refine par_no ?_
    rintro ⟨⟨n, d⟩, hv, ht⟩
    have hv' := hv
    simp only [vF_iff] at hv'
    have ec : s.data.toList = tl n d := by rw [← ht]; exact txt_list n d
    have pn := pInt_itoa (n := n) (by omega) (by omega)
    have pd := pInt_itoa (n := d) (by omega) (by omega)
    have hb : ((txt n d).toList == s.toList) = true := (ba_beq _ _).2 ht
    rw [ec, tl_cut] at h
    by_cases h1 : d = 1
    · rw [if_pos h1] at h
      simp only [pn] at h
      subst h1
      have hv1 : vF n 1 = true := hv
      simp [parA, parD0, hv1, hb] at h
    · rw [if_neg h1] at h
      simp only [pn, pd] at h
      have hv1 : vF n d = true := hv
      simp [parA, parD0, hv1, hb] at h
theorem cut_len (l : List UInt8) : (Lib.cut l [47]).1.length ≤ l.length ∧ (Lib.cut l [47]).2.1.length ≤ l.length := by
  unfold Lib.cut
  split
  · simp only [List.length_take, List.length_drop]; omega
  · simp
theorem ba_mk (l : List UInt8) : (⟨l.toArray⟩ : ByteArray).data.toList = l := rfl
theorem ba_size (l : List UInt8) : (⟨l.toArray⟩ : ByteArray).size = l.length := by simp only [ByteArray.size, List.size_toArray]
theorem ba_len (s : ByteArray) : s.data.toList.length = s.size := by rw [Array.length_toList]; rfl
theorem c35 : CT Tryd.prog sigs Φ 35 := by
  intro sg hs
  have hs' : some (⟨[(.one .str)], [(iv 2), i1], none, none, none⟩ : Sig) = some sg := hs
  cases hs'
  refine ⟨fun _ _ => trivial, ?_⟩
  intro l w hg hcan hp
  have hcan0 : Rel2 K.is _ l := hcan
  obtain ⟨s, l1, rfl, k1⟩ := canon_str hcan0
  cases canon_nil k1
  have hp' : s.size ≤ 1000 := of_decide_eq_true hp
  rw [if_pos (show callable Tryd.prog 35 = true by kernel_rfl)]
  have cl := cut_len s.data.toList
  rw [ba_len] at cl
  refine (walk35a s ⟨(Lib.cut s.data.toList [47]).1.toArray⟩ ⟨(Lib.cut s.data.toList [47]).2.1.toArray⟩ (Lib.cut s.data.toList [47]).2.2 (pInt (Lib.cut s.data.toList [47]).1).2 (pInt (Lib.cut s.data.toList [47]).2.1).2 (pInt (Lib.cut s.data.toList [47]).1).1 (pInt (Lib.cut s.data.toList [47]).2.1).1 w hg (fun w hg => v61 s hp' w hg)
    (fun w hg => ?_) (fun w hg => ?_) (parN s) (parD s) (parE s) (par_main s)).mono fun e w' h => h
  · have h := v62 ⟨(Lib.cut s.data.toList [47]).1.toArray⟩ (by rw [ba_size]; omega) w hg
    rw [ba_mk] at h
    exact h
  · have h := v62 ⟨(Lib.cut s.data.toList [47]).2.1.toArray⟩ (by rw [ba_size]; omega) w hg
    rw [ba_mk] at h
    exact h
theorem byte_at {s : ByteArray} {k : Nat} (h : k < s.size) : (s.data.toList)[k]? = some s[k] := by
  rw [Array.getElem?_toList, Array.getElem?_eq_getElem (by exact h)]
  rfl
theorem byte_47 {b : UInt8} (h : (b.toNat : Int) = 47) : b = 47 := UInt8.toNat_inj.1 (by show b.toNat = 47; omega)
theorem walk36a (s : ByteArray) (K : Nat) (sl : Bool) (n1 n2 : Int) (o1 o2 : Bool) (w : World) (hg : GG w) (hs : s.size ≤ 40) (hK : K ≤ s.size) (hlt : ∀ j, j < K → (s.data.toList)[j]? ≠ some 47)
    (h1 : sl = true → (s.data.toList)[K]? = some 47) (h2 : sl = false → K = s.size)
    (pA : PI (s.extract 0 K) n1 o1) (pB : PI (s.extract (K + 1) s.size) n2 o2) (rn rd : Int) (re : Bool)
    (hR : Hid (cond (vF n1 (cond sl n2 1) && ((txt n1 (cond sl n2 1)).toList == s.toList)) (rn = n1 ∧ rd = cond sl n2 1 ∧ re = true) (rn = 0 ∧ rd = 0 ∧ re = false))) :
    Calls Tryd.prog 36 #[.string s] w fun e w' => e = .returned (.tuple #[.agg #[.int .i64 rn, .int .i64 rd], .bool re]) ∧ Below w.heap.size w w' := by
  have HG : Hid (GG w) := hg
  have HL : Hid (∀ j, j < K → (s.data.toList)[j]? ≠ some 47) := hlt
  have H1 : Hid (sl = true → (s.data.toList)[K]? = some 47) := h1
  have H2 : Hid (sl = false → K = s.size) := h2
  have PA : Hid (PI (s.extract 0 K) n1 o1) := pA
  have PB : Hid (PI (s.extract (K + 1) s.size) n2 o2) := pB
  clear hg hlt h1 h2 pA pB
  go_enter Tryd.func36, Tryd.ntmps36
  go_wp2_with fail
  go_loop [4, 5, 6] (fun v4 v5 i => ∃ k : Nat, k ≤ K ∧ i = .int .i64 k ∧ v4 = .int .i64 s.size ∧ v5 = .int .i64 1) (fun _ _ i => s.size - (intOf i).toNat)
  case atStart => exact ⟨0, Nat.zero_le _, rfl, rfl, rfl⟩
  case round =>
    obtain ⟨k, hk, rfl, rfl, rfl⟩ := hrel
    by_cases hks : k < s.size
    · by_cases hb : s[k] = 47
      · -- the slash
        have hb' : (s[k].toNat : Int) = 47 := by rw [hb]; rfl
        have hkK : k = K := by
          apply Decidable.by_contra
          intro hn
          exact HL.out k (by omega) (by rw [byte_at hks, hb])
        have hsl : sl = true := by
          cases hq : sl with
          | true => rfl
          | false => have := H2.out hq; omega
        subst hsl hkK
        clear HL H1 H2
        go_wp2_with fail
        refine (PB.out _ (GG.mono HG.out (by go_grown))).mono ?_
        rintro e w3 ⟨x, rfl, _, hb3⟩
        have HB3 : Hid (Below w.heap.size w w3) := below_tr (by go_grown) hb3
        have TR3 : Hid (Two w3 w.heap.size 0 0) := (Two.new w 0 0).below hb3
        have HG3 : Hid (GG w3) := GG.mono HG.out HB3.out
        clear hb3 PB
        go_wp2_with fail
        refine (PA.out _ (HG3.out)).mono ?_
        rintro e w4 ⟨x4, rfl, _, hb4⟩
        have HB4 : Hid (Below w.heap.size w w4) := below_tr (HB3.out) hb4
        have TR4 : Hid (Two w4 w.heap.size 0 0) := (TR3.out).below hb4
        have HG4 : Hid (GG w4) := GG.mono HG.out HB4.out
        clear hb4
        go_wp2_with fail
        refine (v24 n1 (n2) _ (GG.mono HG4.out (by go_grown))).mono ?_
        rintro e w5 ⟨rfl, hb5⟩
        have HB5 : Hid (Below w.heap.size w w5) := below_tr (by have hb := HB4.out; have hs := hb.size; show Below _ _ _; go_grown) hb5
        have TF5 : Hid (Two w5 w4.heap.size n1 (n2)) := (Two.new w4 n1 (n2)).below hb5
        have TR5 : Hid (Two w5 w.heap.size 0 0) := (TR4.out.alloc _).below hb5
        have HG5 : Hid (GG w5) := GG.mono HG.out HB5.out
        have NE : Hid (w.heap.size ≠ w4.heap.size) := by
          show _ ≠ _
          have := TR4.out.lt
          omega
        clear hb5
        cases hv : vF n1 (n2)
        · have ac : Hid ((vF n1 (cond true n2 1) && ((txt n1 (cond true n2 1)).toList == s.toList)) = false) := by
            show _ = _
            simp [hv]
          have r0 := TR5.out.c0
          have r1 := TR5.out.c1
          have r2 := TR5.out.f0
          have r3 := TR5.out.f1
          have r4 := TR5.out.lt
          have q := TR5.out.set (0) (0)
          have q0 : Hid _ := q.c0
          have q1 : Hid _ := q.c1
          clear q
          have HB9 : Hid (Below w.heap.size w ((w5.setCell ⟨w.heap.size, 0, none⟩ (.int .i64 (0))).setCell ⟨w.heap.size, 1, none⟩ (.int .i64 (0)))) := by
            have hb := HB5.out
            have hs := hb.size
            show Below _ _ _
            go_grown
          go_wp2
          (try simp only [Exit.inBlock, Exit.then])
          refine bodyPost_ret (by simp [results, Tryd.results36, go_sem, q0.out, q1.out]; try rfl) rfl ?_
          have hr := hR.out
          rw [ac.out] at hr
          obtain ⟨e1, e2, e3⟩ := hr
          rw [e1, e2, e3]
          exact ⟨rfl, HB9.out⟩
        · have f0 := TF5.out.c0
          have f1 := TF5.out.c1
          have f4 := TF5.out.lt
          go_wp2_with fail
          clear f0 f1 f4
          refine (v38 n1 (n2) w5 HG5.out hv).mono ?_
          rintro e w6 ⟨rfl, hb6⟩
          have HB6 : Hid (Below w.heap.size w w6) := below_tr HB5.out hb6
          have TF6 : Hid (Two w6 w4.heap.size n1 (n2)) := TF5.out.below hb6
          have TR6 : Hid (Two w6 w.heap.size 0 0) := TR5.out.below hb6
          clear hb6
          cases ht : ((txt n1 (n2)).toList == s.toList)
          · have ac : Hid ((vF n1 (cond true n2 1) && ((txt n1 (cond true n2 1)).toList == s.toList)) = false) := by
              show _ = _
              simp [hv, ht]
            have r0 := TR6.out.c0
            have r1 := TR6.out.c1
            have r2 := TR6.out.f0
            have r3 := TR6.out.f1
            have r4 := TR6.out.lt
            have q := TR6.out.set (0) (0)
            have q0 : Hid _ := q.c0
            have q1 : Hid _ := q.c1
            clear q
            have HB9 : Hid (Below w.heap.size w ((w6.setCell ⟨w.heap.size, 0, none⟩ (.int .i64 (0))).setCell ⟨w.heap.size, 1, none⟩ (.int .i64 (0)))) := by
              have hb := HB6.out
              have hs := hb.size
              show Below _ _ _
              go_grown
            go_wp2
            (try simp only [Exit.inBlock, Exit.then])
            refine bodyPost_ret (by simp [results, Tryd.results36, go_sem, q0.out, q1.out]; try rfl) rfl ?_
            have hr := hR.out
            rw [ac.out] at hr
            obtain ⟨e1, e2, e3⟩ := hr
            rw [e1, e2, e3]
            exact ⟨rfl, HB9.out⟩
          · have ac : Hid ((vF n1 (cond true n2 1) && ((txt n1 (cond true n2 1)).toList == s.toList)) = true) := by
              show _ = _
              simp [hv, ht]
            have r0 := TR6.out.c0
            have r1 := TR6.out.c1
            have r2 := TR6.out.f0
            have r3 := TR6.out.f1
            have r4 := TR6.out.lt
            have f0 := TF6.out.c0
            have f1 := TF6.out.c1
            have f2 := TF6.out.f0
            have f3 := TF6.out.f1
            have f4 := TF6.out.lt
            have q := TR6.out.set (n1) (n2)
            have q0 : Hid _ := q.c0
            have q1 : Hid _ := q.c1
            clear q
            have HB9 : Hid (Below w.heap.size w ((w6.setCell ⟨w.heap.size, 0, none⟩ (.int .i64 (n1))).setCell ⟨w.heap.size, 1, none⟩ (.int .i64 (n2)))) := by
              have hb := HB6.out
              have hs := hb.size
              show Below _ _ _
              go_grown
            go_wp2
            (try simp only [Exit.inBlock, Exit.then])
            refine bodyPost_ret (by simp [results, Tryd.results36, go_sem, q0.out, q1.out]; try rfl) rfl ?_
            have hr := hR.out
            rw [ac.out] at hr
            obtain ⟨e1, e2, e3⟩ := hr
            rw [e1, e2, e3]
            exact ⟨rfl, HB9.out⟩
      · have hb' : ¬ (s[k].toNat : Int) = 47 := fun h => hb (byte_47 h)
        have hk' : k + 1 ≤ K := by
          apply Decidable.by_contra
          intro hn
          have hkK : k = K := by omega
          subst hkK
          cases hq : sl with
          | true =>
            have := H1.out hq
            rw [byte_at hks] at this
            exact hb (Option.some.inj this)
          | false => have := H2.out hq; omega
        clear hb
        go_wp2_with fail
        go_round
        case rel => exact ⟨k + 1, hk', by go_num, rfl, rfl⟩
        case measure => simp [intOf]; omega
    · have hkK : K = s.size := by omega
      have hsl : sl = false := by
        cases hq : sl with
        | false => rfl
        | true =>
          have := H1.out hq
          rw [hkK, List.getElem?_eq_none (by rw [ba_len]; exact Nat.le_refl _)] at this
          cases this
      subst hsl hkK
      clear HL H1 H2
      have PA : Hid (PI s n1 o1) := by
        have h := PA.out
        rw [show s.extract 0 s.size = s by simp] at h
        exact h
      go_wp2_with fail
      refine (PA.out _ (GG.mono HG.out (by go_grown))).mono ?_
      rintro e w4 ⟨x4, rfl, _, hb4⟩
      have HB4 : Hid (Below w.heap.size w w4) := below_tr (by go_grown) hb4
      have TR4 : Hid (Two w4 w.heap.size 0 0) := (Two.new w 0 0).below hb4
      have HG4 : Hid (GG w4) := GG.mono HG.out HB4.out
      clear hb4
      go_wp2_with fail
      refine (v24 n1 (1) _ (GG.mono HG4.out (by go_grown))).mono ?_
      rintro e w5 ⟨rfl, hb5⟩
      have HB5 : Hid (Below w.heap.size w w5) := below_tr (by have hb := HB4.out; have hs := hb.size; show Below _ _ _; go_grown) hb5
      have TF5 : Hid (Two w5 w4.heap.size n1 (1)) := (Two.new w4 n1 (1)).below hb5
      have TR5 : Hid (Two w5 w.heap.size 0 0) := (TR4.out.alloc _).below hb5
      have HG5 : Hid (GG w5) := GG.mono HG.out HB5.out
      have NE : Hid (w.heap.size ≠ w4.heap.size) := by
        show _ ≠ _
        have := TR4.out.lt
        omega
      clear hb5
      cases hv : vF n1 (1)
      · have ac : Hid ((vF n1 (cond false n2 1) && ((txt n1 (cond false n2 1)).toList == s.toList)) = false) := by
          show _ = _
          simp [hv]
        have r0 := TR5.out.c0
        have r1 := TR5.out.c1
        have r2 := TR5.out.f0
        have r3 := TR5.out.f1
        have r4 := TR5.out.lt
        have q := TR5.out.set (0) (0)
        have q0 : Hid _ := q.c0
        have q1 : Hid _ := q.c1
        clear q
        have HB9 : Hid (Below w.heap.size w ((w5.setCell ⟨w.heap.size, 0, none⟩ (.int .i64 (0))).setCell ⟨w.heap.size, 1, none⟩ (.int .i64 (0)))) := by
          have hb := HB5.out
          have hs := hb.size
          show Below _ _ _
          go_grown
        go_wp2
        (try simp only [Exit.inBlock, Exit.then])
        refine bodyPost_ret (by simp [results, Tryd.results36, go_sem, q0.out, q1.out]; try rfl) rfl ?_
        have hr := hR.out
        rw [ac.out] at hr
        obtain ⟨e1, e2, e3⟩ := hr
        rw [e1, e2, e3]
        exact ⟨rfl, HB9.out⟩
      · have f0 := TF5.out.c0
        have f1 := TF5.out.c1
        have f4 := TF5.out.lt
        go_wp2_with fail
        clear f0 f1 f4
        refine (v38 n1 (1) w5 HG5.out hv).mono ?_
        rintro e w6 ⟨rfl, hb6⟩
        have HB6 : Hid (Below w.heap.size w w6) := below_tr HB5.out hb6
        have TF6 : Hid (Two w6 w4.heap.size n1 (1)) := TF5.out.below hb6
        have TR6 : Hid (Two w6 w.heap.size 0 0) := TR5.out.below hb6
        clear hb6
        cases ht : ((txt n1 (1)).toList == s.toList)
        · have ac : Hid ((vF n1 (cond false n2 1) && ((txt n1 (cond false n2 1)).toList == s.toList)) = false) := by
            show _ = _
            simp [hv, ht]
          have r0 := TR6.out.c0
          have r1 := TR6.out.c1
          have r2 := TR6.out.f0
          have r3 := TR6.out.f1
          have r4 := TR6.out.lt
          have q := TR6.out.set (0) (0)
          have q0 : Hid _ := q.c0
          have q1 : Hid _ := q.c1
          clear q
          have HB9 : Hid (Below w.heap.size w ((w6.setCell ⟨w.heap.size, 0, none⟩ (.int .i64 (0))).setCell ⟨w.heap.size, 1, none⟩ (.int .i64 (0)))) := by
            have hb := HB6.out
            have hs := hb.size
            show Below _ _ _
            go_grown
          go_wp2
          (try simp only [Exit.inBlock, Exit.then])
          refine bodyPost_ret (by simp [results, Tryd.results36, go_sem, q0.out, q1.out]; try rfl) rfl ?_
          have hr := hR.out
          rw [ac.out] at hr
          obtain ⟨e1, e2, e3⟩ := hr
          rw [e1, e2, e3]
          exact ⟨rfl, HB9.out⟩
        · have ac : Hid ((vF n1 (cond false n2 1) && ((txt n1 (cond false n2 1)).toList == s.toList)) = true) := by
            show _ = _
            simp [hv, ht]
          have r0 := TR6.out.c0
          have r1 := TR6.out.c1
          have r2 := TR6.out.f0
          have r3 := TR6.out.f1
          have r4 := TR6.out.lt
          have f0 := TF6.out.c0
          have f1 := TF6.out.c1
          have f2 := TF6.out.f0
          have f3 := TF6.out.f1
          have f4 := TF6.out.lt
          have q := TR6.out.set (n1) (1)
          have q0 : Hid _ := q.c0
          have q1 : Hid _ := q.c1
          clear q
          have HB9 : Hid (Below w.heap.size w ((w6.setCell ⟨w.heap.size, 0, none⟩ (.int .i64 (n1))).setCell ⟨w.heap.size, 1, none⟩ (.int .i64 (1)))) := by
            have hb := HB6.out
            have hs := hb.size
            show Below _ _ _
            go_grown
          go_wp2
          (try simp only [Exit.inBlock, Exit.then])
          refine bodyPost_ret (by simp [results, Tryd.results36, go_sem, q0.out, q1.out]; try rfl) rfl ?_
          have hr := hR.out
          rw [ac.out] at hr
          obtain ⟨e1, e2, e3⟩ := hr
          rw [e1, e2, e3]
          exact ⟨rfl, HB9.out⟩
end Go.Proofs.YtkmffnjmiechfaaDoor
