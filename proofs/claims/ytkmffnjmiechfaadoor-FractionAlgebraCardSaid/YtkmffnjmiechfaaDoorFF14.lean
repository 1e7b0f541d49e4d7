/- The fraction seat: texts of fractions. -/
import Derived.Test.YtkmffnjmiechfaaDoorFF13
import Derived.Lib.ItoaLen
namespace Go.Proofs.YtkmffnjmiechfaaDoor
open Go.Sx
set_option linter.unusedVariables false
set_option linter.unusedSimpArgs false
set_option maxRecDepth 100000


theorem szB_ok {x y : ByteArray} (h : x.size + y.size ≤ 9223372036854775807) : szB x y = true := by
  unfold szB
  apply decide_eq_true
  simp only [IntKind.max, IntKind.signed, IntKind.bits, if_true]
  omega

theorem fmt_size {n : Int} (h0 : -9223372036854775808 ≤ n) (h1 : n ≤ 9223372036854775807) : (fmtI n).size ≤ 21 := by
  have := Lib.itoa_length_le n h0 h1
  unfold fmtI
  simp only [ByteArray.size, List.size_toArray]
  exact this

theorem t63 (n : Int) (d : Int) (Q : List Sc → Prop) : (fnT (cfgOf Tryd.prog sigs [64] [39, 74, 83, 84] noLoop) 63 Tryd.f63 (bodyOf Tryd.f63) ⟨[(iv 2)], [(.one .str)], none, none, none⟩ 100).holds Φ [.int n, .int d] (resQ Φ Q) =
  (cond (fmtP n 10)
  (cond (cmpI .eql d 1)
   (Q [.str (fmt0 n 10)])
   (cond (fmtP d 10)
   (cond (Sc.toBool (.bool (szB (⟨#[47]⟩ : ByteArray) (fmt0 d 10))))
   (cond (Sc.toBool (.bool (szB (fmt0 n 10) ((⟨#[47]⟩ : ByteArray) ++ (fmt0 d 10)))))
   (Q [.str ((fmt0 n 10) ++ ((⟨#[47]⟩ : ByteArray) ++ (fmt0 d 10)))])
   False)
   False)
   False))
  False) := by kernel_rfl
theorem t38 (n : Int) (d : Int) (Q : List Sc → Prop) : (fnT (cfgOf Tryd.prog sigs [64] [39, 74, 83, 84] noLoop) 38 Tryd.f38 (bodyOf Tryd.f38) ⟨[(iv 2)], [(.one .str)], none, none, none⟩ 100).holds Φ [.int n, .int d] (resQ Φ Q) =
  (cond (fmtP n 10)
  (cond (cmpI .eql d 1)
   (Q [.str (fmt0 n 10)])
   (cond (fmtP d 10)
   (cond (Sc.toBool (.bool (szB (⟨#[47]⟩ : ByteArray) (fmt0 d 10))))
   (cond (Sc.toBool (.bool (szB (fmt0 n 10) ((⟨#[47]⟩ : ByteArray) ++ (fmt0 d 10)))))
   (Q [.str ((fmt0 n 10) ++ ((⟨#[47]⟩ : ByteArray) ++ (fmt0 d 10)))])
   False)
   False)
   False))
  False) := by kernel_rfl
theorem c63 : CT Tryd.prog sigs Φ 63 :=
  ct_of [64] [39, 74, 83, 84] noLoop 100 mixed rfl Tryd.func63 (by kernel_rfl) (forall_cons c64 forall_nil) fun l0 hl0 hp => by
    obtain ⟨n, l1, rfl, hl1⟩ := canon_int hl0
    obtain ⟨d, l2, rfl, hl2⟩ := canon_int hl1
    cases canon_nil hl2
    clear hl2 hl1 hl0
    have hp : txtP n d = true := hp
    show T.holds _ _ _ (resQ Φ fun rs => rs = [.str (txt0 n d)])
    rw [t63]
    simp only [txtP, Bool.and_eq_true, ii_iff] at hp
    have f1 : fmtP n 10 = true := by unfold fmtP; rw [Bool.and_eq_true, ii_iff]; exact ⟨by omega, rfl⟩
    have f2 : fmtP d 10 = true := by unfold fmtP; rw [Bool.and_eq_true, ii_iff]; exact ⟨by omega, rfl⟩
    rw [f1, eql_d]
    simp only [fmt0, txt0]
    by_cases c : d = 1
    · rw [decide_eq_true c]
      show [Sc.str (fmtI n)] = [.str (txt n d)]
      unfold txt
      rw [if_pos c]
    · have k1 : szB (⟨#[47]⟩ : ByteArray) (fmtI d) = true := szB_ok (by have := fmt_size hp.2.1 hp.2.2; have : (⟨#[47]⟩ : ByteArray).size = 1 := rfl; omega)
      have k2 : szB (fmtI n) ((⟨#[47]⟩ : ByteArray) ++ fmtI d) = true := szB_ok (by have := fmt_size hp.1.1 hp.1.2; have := fmt_size hp.2.1 hp.2.2; have : (⟨#[47]⟩ : ByteArray).size = 1 := rfl; rw [ByteArray.size_append]; omega)
      rw [decide_eq_false c, f2, k1, k2]
      show [Sc.str (fmtI n ++ ((⟨#[47]⟩ : ByteArray) ++ fmtI d))] = [.str (txt n d)]
      unfold txt
      rw [if_neg c]

theorem c38 : CT Tryd.prog sigs Φ 38 :=
  ct_of [64] [39, 74, 83, 84] noLoop 100 mixed rfl Tryd.func38 (by kernel_rfl) (forall_cons c64 forall_nil) fun l0 hl0 hp => by
    obtain ⟨n, l1, rfl, hl1⟩ := canon_int hl0
    obtain ⟨d, l2, rfl, hl2⟩ := canon_int hl1
    cases canon_nil hl2
    clear hl2 hl1 hl0
    have hp : rTxtP n d = true := hp
    show T.holds _ _ _ (resQ Φ fun rs => rs = [.str (rTxt0 n d)])
    rw [t38]
    have v := hp
    simp only [rTxtP, vF_iff] at v
    have hp : (-9223372036854775808 ≤ n ∧ n ≤ 9223372036854775807) ∧ -9223372036854775808 ≤ d ∧ d ≤ 9223372036854775807 := by omega
    have f1 : fmtP n 10 = true := by unfold fmtP; rw [Bool.and_eq_true, ii_iff]; exact ⟨by omega, rfl⟩
    have f2 : fmtP d 10 = true := by unfold fmtP; rw [Bool.and_eq_true, ii_iff]; exact ⟨by omega, rfl⟩
    rw [f1, eql_d]
    simp only [fmt0, rTxt0]
    by_cases c : d = 1
    · rw [decide_eq_true c]
      show [Sc.str (fmtI n)] = [.str (txt n d)]
      unfold txt
      rw [if_pos c]
    · have k1 : szB (⟨#[47]⟩ : ByteArray) (fmtI d) = true := szB_ok (by have := fmt_size hp.2.1 hp.2.2; have : (⟨#[47]⟩ : ByteArray).size = 1 := rfl; omega)
      have k2 : szB (fmtI n) ((⟨#[47]⟩ : ByteArray) ++ fmtI d) = true := szB_ok (by have := fmt_size hp.1.1 hp.1.2; have := fmt_size hp.2.1 hp.2.2; have : (⟨#[47]⟩ : ByteArray).size = 1 := rfl; rw [ByteArray.size_append]; omega)
      rw [decide_eq_false c, f2, k1, k2]
      show [Sc.str (fmtI n ++ ((⟨#[47]⟩ : ByteArray) ++ fmtI d))] = [.str (txt n d)]
      unfold txt
      rw [if_neg c]

theorem c37 : CT Tryd.prog sigs Φ 37 :=
  ct_of [23, 63] [39, 74, 83, 84] noLoop 100 mixed rfl Tryd.func37 (by kernel_rfl) (forall_cons c23 (forall_cons c63 forall_nil)) fun l0 hl0 hp => by
    obtain ⟨n, l1, rfl, hl1⟩ := canon_int hl0
    obtain ⟨d, l2, rfl, hl2⟩ := canon_int hl1
    cases canon_nil hl2
    clear hl2 hl1 hl0
    show T.holds _ _ _ (resQ Φ fun rs => rs = [.str (Txt0 n d), .int (Txt1 n d)])
    rw [t37]
    simp only [Val0, Txt0, Txt1]
    by_cases v1 : vF n d = true
    · have v := v1
      rw [vF_iff] at v
      have f1 : txtP n d = true := by unfold txtP; rw [Bool.and_eq_true, ii_iff, ii_iff]; omega
      rw [v1, f1]
      rfl
    · have v1' : vF n d = false := by simpa using v1
      rw [v1']
      rfl

end Go.Proofs.YtkmffnjmiechfaaDoor
