/- The fraction seat: the contract of the reference's Parse. -/
import Derived.Test.YtkmffnjmiechfaaDoorFW3
import Derived.Lib.CutLaws
namespace Go.Proofs.YtkmffnjmiechfaaDoor
open Go.Sx Go.RowKit
set_option linter.unusedVariables false
set_option linter.unusedSimpArgs false
set_option maxRecDepth 100000
theorem nD_le : ∀ (k u : Nat), 1 ≤ k → u < 10 ^ k → Lib.nDigits u ≤ k
  | 0, _, h, _ => by omega
  | 1, u, _, h => by rw [Lib.nDigits_small (by simpa using h)]; exact Nat.le_refl _
  | k + 2, u, _, h => by
    by_cases hs : u < 10
    · rw [Lib.nDigits_small hs]; omega
    · rw [Lib.nDigits_big hs]
      have h10 : u / 10 < 10 ^ (k + 1) := by
        rw [Nat.div_lt_iff_lt_mul (by decide), ← Nat.pow_succ]
        exact h
      have := nD_le (k + 1) (u / 10) (by omega) h10
      omega
theorem itoa_len {n : Int} (h0 : -1000000000000000000 < n) (h1 : n < 1000000000000000000) : (Lib.itoa n).length ≤ 19 := by
  by_cases hn : n < 0
  · obtain ⟨u, rfl⟩ : ∃ u : Nat, n = -(u : Int) := ⟨n.natAbs, by omega⟩
    rw [Lib.itoa_neg u (by omega), List.length_cons, Lib.decDigits_length]
    have := nD_le 18 u (by omega) (by omega)
    omega
  · obtain ⟨u, rfl⟩ : ∃ u : Nat, n = u := ⟨n.toNat, by omega⟩
    rw [Lib.itoa_nonneg, Lib.decDigits_length]
    have := nD_le 18 u (by omega) (by omega)
    omega
theorem txt_len {n d : Int} (h : vF n d = true) : (txt n d).size ≤ 39 := by
  rw [vF_iff] at h
  rw [← ba_len, txt_list]
  unfold tl
  have a := itoa_len (n := n) (by omega) (by omega)
  have b := itoa_len (n := d) (by omega) (by omega)
  split
  · omega
  · rw [List.length_append, List.length_cons]; omega
theorem occ_iff (l : List UInt8) (i : Nat) : Lib.occAt l [47] i = true ↔ l[i]? = some 47 := by
  unfold Lib.occAt
  rw [← List.head?_drop]
  cases l.drop i with
  | nil => exact ⟨fun h => (by cases h), fun h => (by cases h)⟩
  | cons x r =>
    show (((47 : UInt8) == x) && List.isPrefixOf [] r) = true ↔ some x = some 47
    rw [Bool.and_eq_true, beq_iff_eq]
    exact ⟨fun h => congrArg some h.1.symm, fun h => ⟨(Option.some.inj h).symm, rfl⟩⟩
theorem par_ref (s : ByteArray) : cond (vF (pInt (Lib.cut s.data.toList [47]).1).1 (cond (Lib.cut s.data.toList [47]).2.2 (pInt (Lib.cut s.data.toList [47]).2.1).1 1) && ((txt (pInt (Lib.cut s.data.toList [47]).1).1 (cond (Lib.cut s.data.toList [47]).2.2 (pInt (Lib.cut s.data.toList [47]).2.1).1 1)).toList == s.toList))
    (parN s = (pInt (Lib.cut s.data.toList [47]).1).1 ∧ parD s = cond (Lib.cut s.data.toList [47]).2.2 (pInt (Lib.cut s.data.toList [47]).2.1).1 1 ∧ decide (parE s = 0) = true) (parN s = 0 ∧ parD s = 0 ∧ decide (parE s = 0) = false) := by
  cases h : (vF (pInt (Lib.cut s.data.toList [47]).1).1 (cond (Lib.cut s.data.toList [47]).2.2 (pInt (Lib.cut s.data.toList [47]).2.1).1 1) && ((txt (pInt (Lib.cut s.data.toList [47]).1).1 (cond (Lib.cut s.data.toList [47]).2.2 (pInt (Lib.cut s.data.toList [47]).2.1).1 1)).toList == s.toList)) with
  | true =>
    simp only [Bool.and_eq_true] at h
    obtain ⟨a, b, c⟩ := par_yes h.1 ((ba_beq _ _).1 h.2)
    exact ⟨a, b, decide_eq_true c⟩
  | false =>
    have hno : ¬ ∃ q : Int × Int, vF q.1 q.2 = true ∧ txt q.1 q.2 = s := by
      rintro ⟨⟨n, d⟩, hv, ht⟩
      have hv' := hv
      simp only [vF_iff] at hv'
      have ec : s.data.toList = tl n d := by rw [← ht]; exact txt_list n d
      have pn := pInt_itoa (n := n) (by omega) (by omega)
      have pd := pInt_itoa (n := d) (by omega) (by omega)
      have hb : ((txt n d).toList == s.toList) = true := (ba_beq _ _).2 ht
      rw [ec, tl_cut] at h
      by_cases h1 : d = 1
      · rw [if_pos h1] at h
        simp only [pn] at h
        subst h1
        have hv1 : vF n 1 = true := hv
        simp [hv1, hb] at h
      · rw [if_neg h1] at h
        simp only [pn, pd] at h
        have hv1 : vF n d = true := hv
        simp [hv1, hb] at h
    obtain ⟨a, b, c⟩ := par_no hno
    exact ⟨a, b, decide_eq_false (by rw [c]; decide)⟩
theorem walk36b (s : ByteArray) (w : World) (hs : 40 < s.size) (hb : s.size ≤ 1000) :
    Calls Tryd.prog 36 #[.string s] w fun e w' => e = .returned (.tuple #[.agg #[.int .i64 0, .int .i64 0], .bool false]) ∧ Below w.heap.size w w' := by
  go_enter Tryd.func36, Tryd.ntmps36
  go_wp2
  (try simp only [Exit.inBlock, Exit.then])
  refine bodyPost_ret (by simp [results, Tryd.results36, go_sem]; try rfl) rfl ?_
  exact ⟨rfl, by go_grown⟩
theorem c36 : CT Tryd.prog sigs Φ 36 := by
  intro sg hs
  have hs' : some (⟨[(.one .str)], [(iv 2), sb], none, none, none⟩ : Sig) = some sg := hs
  cases hs'
  refine ⟨fun _ _ => trivial, ?_⟩
  intro l w hg hcan hp
  have hcan0 : Rel2 K.is _ l := hcan
  obtain ⟨s, l1, rfl, k1⟩ := canon_str hcan0
  cases canon_nil k1
  have hp' : s.size ≤ 1000 := of_decide_eq_true hp
  rw [if_pos (show callable Tryd.prog 36 = true by kernel_rfl)]
  by_cases hsz : 40 < s.size
  · have hno : ¬ ∃ q : Int × Int, vF q.1 q.2 = true ∧ txt q.1 q.2 = s := by
      rintro ⟨⟨n, d⟩, hv, ht⟩
      have := txt_len (n := n) (d := d) hv
      rw [show txt n d = s from ht] at this
      omega
    obtain ⟨a, b, c⟩ := par_no hno
    refine (walk36b s w hsz hp').mono fun e w' ⟨he, hw⟩ => ⟨he.trans ?_, hw⟩
    show _ = Ending.returned (.tuple #[.agg #[.int .i64 (parN s), .int .i64 (parD s)], .bool (decide (parE s = 0))])
    rw [a, b, c]
    rfl
  · have hi := Lib.index_spec s.data.toList [47]
    rcases hi with ⟨i1, i2⟩ | ⟨i, i1, i2, i3, i4⟩
    · have hm := Lib.cutB_miss s ⟨#[47]⟩ i1
      have hc : (Lib.cut s.data.toList [47]).1 = s.data.toList ∧ (Lib.cut s.data.toList [47]).2.1 = [] ∧ (Lib.cut s.data.toList [47]).2.2 = false := by
        unfold Lib.cut
        rw [i1, if_neg (by omega)]
        exact ⟨rfl, rfl, rfl⟩
      have pr := par_ref s
      rw [hc.2.2, hc.1, hc.2.1] at pr
      refine walk36a s s.size false (pInt s.data.toList).1 (pInt []).1 (pInt s.data.toList).2 (pInt []).2 w hg (by omega) (Nat.le_refl _) (fun j hj h => ?_) (fun h => by cases h) (fun _ => rfl)
        (fun w hg => ?_) (fun w hg => ?_) (parN s) (parD s) (decide (parE s = 0)) pr
      · have := i2 j (by rw [ba_len]; omega)
        rw [(occ_iff _ _).2 h] at this
        cases this
      · have h := v62 s (by omega) w hg
        rw [show s.extract 0 s.size = s by simp]
        exact h
      · have h := v62 ⟨#[]⟩ (by decide) w hg
        rw [show s.extract (s.size + 1) s.size = ⟨#[]⟩ by
          apply ba_eq
          simp]
        exact h
    · have hl : i < s.size := by
        have := (occ_iff _ _).1 i3
        have := (List.getElem?_eq_some_iff.1 this).1
        rw [ba_len] at this
        exact this
      have hh := Lib.cutB_hit s ⟨#[47]⟩ i i1
      obtain ⟨a1, a2, a3⟩ := hh
      have a1' : s.extract 0 i = ⟨(Lib.cut s.data.toList [47]).1.toArray⟩ := a1.symm
      have a2' : s.extract (i + 1) s.size = ⟨(Lib.cut s.data.toList [47]).2.1.toArray⟩ := a2.symm
      have a3' : (Lib.cut s.data.toList [47]).2.2 = true := a3
      have pr := par_ref s
      rw [a3'] at pr
      have cl := cut_len s.data.toList
      rw [ba_len] at cl
      refine walk36a s i true (pInt (Lib.cut s.data.toList [47]).1).1 (pInt (Lib.cut s.data.toList [47]).2.1).1 (pInt (Lib.cut s.data.toList [47]).1).2 (pInt (Lib.cut s.data.toList [47]).2.1).2 w hg (by omega) (by omega) (fun j hj h => ?_) (fun _ => (occ_iff _ _).1 i3) (fun h => by cases h)
        (fun w hg => ?_) (fun w hg => ?_) (parN s) (parD s) (decide (parE s = 0)) pr
      · have := i4 j hj
        rw [(occ_iff _ _).2 h] at this
        cases this
      · have h := v62 ⟨(Lib.cut s.data.toList [47]).1.toArray⟩ (by rw [ba_size]; omega) w hg
        rw [ba_mk] at h
        rw [a1']
        exact h
      · have h := v62 ⟨(Lib.cut s.data.toList [47]).2.1.toArray⟩ (by rw [ba_size]; omega) w hg
        rw [ba_mk] at h
        rw [a2']
        exact h
end Go.Proofs.YtkmffnjmiechfaaDoor
