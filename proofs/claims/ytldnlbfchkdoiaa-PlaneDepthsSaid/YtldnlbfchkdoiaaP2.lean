/- The plane seat: contracts, the first part. -/
import Derived.Test.YtldnlbfchkdoiaaP1
namespace Go.Proofs.Ytldnlbfchkdoiaa
open Go.Sx
set_option linter.unusedVariables false
set_option linter.unusedSimpArgs false
set_option maxRecDepth 100000

theorem lss_d (a b : Int) : cmpI .lss a b = decide (a < b) := rfl
theorem eql_d (a b : Int) : cmpI .eql a b = decide (a = b) := rfl
theorem nlt_d (a b : Int) : (!decide (a < b)) = decide (b ≤ a) := by
  by_cases h : a < b
  · rw [decide_eq_true h, decide_eq_false (by omega)]; rfl
  · rw [decide_eq_false h, decide_eq_true (by omega)]; rfl
theorem and_chain (x y : Bool) (A B : Prop) : cond x (cond y B A) A = cond (x && y) B A := by cases x <;> rfl
theorem cond_if (x : Bool) (A B : Prop) : cond x A B = if x = true then A else B := by cases x <;> rfl
theorem near_gen (x lo hi : Int) (A B : Prop) : cond (cmpI .lss x lo) A (cond (cmpI .lss hi x) A B) = cond (decide (lo ≤ x) && decide (x ≤ hi)) B A := by
  rw [lss_d, lss_d]
  by_cases h1 : x < lo
  · rw [decide_eq_true h1, decide_eq_false (p := lo ≤ x) (by omega)]; rfl
  · by_cases h2 : hi < x
    · rw [decide_eq_false h1, decide_eq_true h2, decide_eq_false (p := x ≤ hi) (by omega), Bool.and_false]; rfl
    · rw [decide_eq_false h1, decide_eq_false h2, decide_eq_true (p := x ≤ hi) (by omega), decide_eq_true (p := lo ≤ x) (by omega)]; rfl
theorem in_gen (n lo hi : Int) (Q : List Sc → Prop) : cond (cmpI .lss n lo) (Q [.bool false]) (Q [.bool (!(cmpI .lss hi n))]) = Q [.bool (decide (lo ≤ n) && decide (n ≤ hi))] := by
  rw [lss_d, lss_d, nlt_d]
  by_cases h1 : n < lo
  · rw [decide_eq_true h1, decide_eq_false (p := lo ≤ n) (by omega)]; rfl
  · rw [decide_eq_false h1, decide_eq_true (p := lo ≤ n) (by omega)]; rfl
theorem T1 {A B : Prop} (u : Int) : cond (cmpI .eql u u) A B = A := by rw [eql_d, decide_eq_true rfl]; rfl
theorem mn_bd {a b L U : Int} (h1 : L ≤ a ∧ a ≤ U) (h2 : L ≤ b ∧ b ≤ U) : L ≤ mnI a b ∧ mnI a b ≤ U := by unfold mnI; split <;> omega
theorem mx_bd {a b L U : Int} (h1 : L ≤ a ∧ a ≤ U) (h2 : L ≤ b ∧ b ≤ U) : L ≤ mxI a b ∧ mxI a b ≤ U := by unfold mxI; split <;> omega
theorem tdiv_bd {x k : Int} {B : Int} (h1 : -B ≤ x) (h2 : x ≤ B) : -B ≤ x.tdiv k ∧ x.tdiv k ≤ B := by
  have h : (x.tdiv k).natAbs ≤ x.natAbs := by rw [Int.natAbs_tdiv]; exact Nat.div_le_self _ _
  omega

theorem mixed : Try.prog.follows .mixedOrders = true := by kernel_rfl
theorem inC_iff (n : Int) : (inC n = true) = (-1000000 ≤ n ∧ n ≤ 1000000) := by simp [inC]
theorem inF_iff (n : Int) : (inF n = true) = (-1000 ≤ n ∧ n ≤ 1000) := by simp [inF]
theorem inD_iff (n : Int) : (inD n = true) = (-4000000000 ≤ n ∧ n ≤ 4000000000) := by simp [inD]
theorem nearC (x : Int) (A B : Prop) : cond (cmpI .lss x (-1000000)) A (cond (cmpI .lss 1000000 x) A B) = cond (inC x) B A := near_gen x _ _ A B
theorem nearF (x : Int) (A B : Prop) : cond (cmpI .lss x (-1000)) A (cond (cmpI .lss 1000 x) A B) = cond (inF x) B A := near_gen x _ _ A B
theorem nearD (x : Int) (A B : Prop) : cond (cmpI .lss x (-4000000000)) A (cond (cmpI .lss 4000000000 x) A B) = cond (inD x) B A := near_gen x _ _ A B
theorem inH_iff (a b c d : Int) : (inH a b c d = true) = ((-1000 ≤ a ∧ a ≤ 1000) ∧ (-1000 ≤ b ∧ b ≤ 1000) ∧ (-1000 ≤ c ∧ c ≤ 1000) ∧ (-4000000000 ≤ d ∧ d ≤ 4000000000)) := by
  simp only [inH, Bool.and_eq_true, inF_iff, inD_iff, and_assoc]
theorem in3_iff (x y z : Int) : (in3 x y z = true) = ((-1000000 ≤ x ∧ x ≤ 1000000) ∧ (-1000000 ≤ y ∧ y ≤ 1000000) ∧ (-1000000 ≤ z ∧ z ≤ 1000000)) := by
  simp only [in3, Bool.and_eq_true, inC_iff, and_assoc]
theorem chkH_ok {a b c d : Int} : chkH a b c d = 0 ↔ inH a b c d = true ∧ ¬ (a = 0 ∧ b = 0 ∧ c = 0) := by
  unfold chkH
  split
  · split <;> simp_all
  · simp_all
theorem chkB_ok {x0 y0 z0 x1 y1 z1 : Int} : chkB x0 y0 z0 x1 y1 z1 = 0 ↔ inB x0 y0 z0 x1 y1 z1 = true ∧ (x0 < x1 ∧ y0 < y1 ∧ z0 < z1) := by
  unfold chkB
  split
  · split <;> simp_all
  · simp_all
theorem chk2_ok {a b c d x0 y0 z0 x1 y1 z1 : Int} : chk2 a b c d x0 y0 z0 x1 y1 z1 = 0 ↔ chkH a b c d = 0 ∧ chkB x0 y0 z0 x1 y1 z1 = 0 := by
  unfold chk2
  split <;> simp_all
theorem chk4_ok {a b c d e f g h : Int} : chk4 a b c d e f g h = 0 ↔ chkH a b c d = 0 ∧ chkH e f g h = 0 := by
  unfold chk4
  split <;> simp_all

theorem c33 : CT Try.prog sigs Φ 33 :=
  ct_of [] [41, 51] noLoop 100 mixed rfl Try.func33 (by kernel_rfl) forall_nil fun l0 hl0 hp => by
    obtain ⟨x, l1, rfl, hl1⟩ := canon_int hl0
    obtain ⟨y, l2, rfl, hl2⟩ := canon_int hl1
    obtain ⟨z, l3, rfl, hl3⟩ := canon_int hl2
    cases canon_nil hl3
    clear hl3 hl2 hl1 hl0
    show T.holds _ _ _ (resQ Φ fun rs => rs = [.int (vck0 x y z)])
    rw [t33]
    simp only [nearC, and_chain, vck0, in3, Bool.and_assoc]
    generalize (inC x && (inC y && inC z)) = b
    cases b <;> rfl

theorem c34 : CT Try.prog sigs Φ 34 :=
  ct_of [] [41, 51] noLoop 100 mixed rfl Try.func34 (by kernel_rfl) forall_nil fun l0 hl0 hp => by
    obtain ⟨x, l1, rfl, hl1⟩ := canon_int hl0
    obtain ⟨y, l2, rfl, hl2⟩ := canon_int hl1
    obtain ⟨z, l3, rfl, hl3⟩ := canon_int hl2
    cases canon_nil hl3
    clear hl3 hl2 hl1 hl0
    show T.holds _ _ _ (resQ Φ fun rs => rs = [.int (prt0 x y z), .int (prt1 x y z), .int (prt2 x y z)])
    rw [t34]
    rfl

theorem c35 : CT Try.prog sigs Φ 35 :=
  ct_of [] [41, 51] noLoop 100 mixed rfl Try.func35 (by kernel_rfl) forall_nil fun l0 hl0 hp => by
    obtain ⟨a, l1, rfl, hl1⟩ := canon_int hl0
    obtain ⟨b, l2, rfl, hl2⟩ := canon_int hl1
    obtain ⟨c, l3, rfl, hl3⟩ := canon_int hl2
    obtain ⟨d, l4, rfl, hl4⟩ := canon_int hl3
    cases canon_nil hl4
    clear hl4 hl3 hl2 hl1 hl0
    show T.holds _ _ _ (resQ Φ fun rs => rs = [.int (fct0 a b c d), .int (fct1 a b c d), .int (fct2 a b c d)])
    rw [t35]
    rfl

theorem c54 : CT Try.prog sigs Φ 54 :=
  ct_of [] [41, 51] noLoop 100 mixed rfl Try.func54 (by kernel_rfl) forall_nil fun l0 hl0 hp => by
    obtain ⟨x0, l1, rfl, hl1⟩ := canon_int hl0
    obtain ⟨y0, l2, rfl, hl2⟩ := canon_int hl1
    obtain ⟨z0, l3, rfl, hl3⟩ := canon_int hl2
    obtain ⟨x1, l4, rfl, hl4⟩ := canon_int hl3
    obtain ⟨y1, l5, rfl, hl5⟩ := canon_int hl4
    obtain ⟨z1, l6, rfl, hl6⟩ := canon_int hl5
    cases canon_nil hl6
    clear hl6 hl5 hl4 hl3 hl2 hl1 hl0
    show T.holds _ _ _ (resQ Φ fun rs => rs = [.int (sds0 x0 y0 z0 x1 y1 z1), .int (sds1 x0 y0 z0 x1 y1 z1), .int (sds2 x0 y0 z0 x1 y1 z1), .int (sds3 x0 y0 z0 x1 y1 z1), .int (sds4 x0 y0 z0 x1 y1 z1), .int (sds5 x0 y0 z0 x1 y1 z1)])
    rw [t54]
    rfl

theorem c36 : CT Try.prog sigs Φ 36 :=
  ct_of [] [41, 51] noLoop 100 mixed rfl Try.func36 (by kernel_rfl) forall_nil fun l0 hl0 hp => by
    obtain ⟨n, l1, rfl, hl1⟩ := canon_int hl0
    cases canon_nil hl1
    clear hl1 hl0
    show T.holds _ _ _ (resQ Φ fun rs => rs = [.bool (rfc0 n)])
    rw [t36]
    exact Eq.mpr (in_gen n _ _ (fun rs => rs = [Sc.bool (rfc0 n)])) rfl

theorem c37 : CT Try.prog sigs Φ 37 :=
  ct_of [] [41, 51] noLoop 100 mixed rfl Try.func37 (by kernel_rfl) forall_nil fun l0 hl0 hp => by
    obtain ⟨n, l1, rfl, hl1⟩ := canon_int hl0
    cases canon_nil hl1
    clear hl1 hl0
    show T.holds _ _ _ (resQ Φ fun rs => rs = [.bool (rin0 n)])
    rw [t37]
    exact Eq.mpr (in_gen n _ _ (fun rs => rs = [Sc.bool (rin0 n)])) rfl

theorem c55 : CT Try.prog sigs Φ 55 :=
  ct_of [] [41, 51] noLoop 100 mixed rfl Try.func55 (by kernel_rfl) forall_nil fun l0 hl0 hp => by
    obtain ⟨n, l1, rfl, hl1⟩ := canon_int hl0
    cases canon_nil hl1
    clear hl1 hl0
    show T.holds _ _ _ (resQ Φ fun rs => rs = [.bool (bin0 n)])
    rw [t55]
    exact Eq.mpr (in_gen n _ _ (fun rs => rs = [Sc.bool (bin0 n)])) rfl

theorem c16 : CT Try.prog sigs Φ 16 :=
  ct_of [37] [41, 51] noLoop 100 mixed rfl Try.func16 (by kernel_rfl) (forall_cons c37 forall_nil) fun l0 hl0 hp => by
    obtain ⟨x, l1, rfl, hl1⟩ := canon_int hl0
    obtain ⟨y, l2, rfl, hl2⟩ := canon_int hl1
    obtain ⟨z, l3, rfl, hl3⟩ := canon_int hl2
    cases canon_nil hl3
    clear hl3 hl2 hl1 hl0
    show T.holds _ _ _ (resQ Φ fun rs => rs = [.bool (rIn0 x y z)])
    rw [t16]
    simp only [rIn0, in3, rin0]
    cases inC x <;> cases inC y <;> rfl

theorem c53 : CT Try.prog sigs Φ 53 :=
  ct_of [] [41, 51] noLoop 100 mixed rfl Try.func53 (by kernel_rfl) forall_nil fun l0 hl0 hp => by
    obtain ⟨x, l1, rfl, hl1⟩ := canon_int hl0
    obtain ⟨y, l2, rfl, hl2⟩ := canon_int hl1
    obtain ⟨z, l3, rfl, hl3⟩ := canon_int hl2
    obtain ⟨ax, l4, rfl, hl4⟩ := canon_int hl3
    cases canon_nil hl4
    clear hl4 hl3 hl2 hl1 hl0
    show T.holds _ _ _ (resQ Φ fun rs => rs = [.int (rat0 x y z ax)])
    rw [t53]
    simp only [rat0, eql_d, cond_if, decide_eq_true_eq]
    repeat' split
    all_goals rfl

theorem c52 : CT Try.prog sigs Φ 52 :=
  ct_of [54, 55] [41, 51] noLoop 100 mixed rfl Try.func52 (by kernel_rfl) (forall_cons c54 (forall_cons c55 forall_nil)) fun l0 hl0 hp => by
    obtain ⟨x0, l1, rfl, hl1⟩ := canon_int hl0
    obtain ⟨y0, l2, rfl, hl2⟩ := canon_int hl1
    obtain ⟨z0, l3, rfl, hl3⟩ := canon_int hl2
    obtain ⟨x1, l4, rfl, hl4⟩ := canon_int hl3
    obtain ⟨y1, l5, rfl, hl5⟩ := canon_int hl4
    obtain ⟨z1, l6, rfl, hl6⟩ := canon_int hl5
    cases canon_nil hl6
    clear hl6 hl5 hl4 hl3 hl2 hl1 hl0
    show T.holds _ _ _ (resQ Φ fun rs => rs = [.int (bck0 x0 y0 z0 x1 y1 z1)])
    rw [t52]
    simp only [bin0, sds0, sds1, sds2, sds3, sds4, sds5, and_chain]
    have hO : (cmpI .lss x0 x1 && (cmpI .lss y0 y1 && cmpI .lss z0 z1)) = decide (x0 < x1 ∧ y0 < y1 ∧ z0 < z1) := by simp only [lss_d, Bool.decide_and]
    have hX : (inC x0 && (inC x1 && (inC y0 && (inC y1 && (inC z0 && inC z1))))) = inB x0 y0 z0 x1 y1 z1 := by simp only [inB, in3]; ac_rfl
    rw [hO, hX]
    unfold bck0 chkB
    cases inB x0 y0 z0 x1 y1 z1
    · rfl
    · by_cases o : x0 < x1 ∧ y0 < y1 ∧ z0 < z1
      · rw [decide_eq_true o, if_pos o]; rfl
      · rw [decide_eq_false o, if_neg o]; rfl

theorem c40 : CT Try.prog sigs Φ 40 :=
  ct_of [53] [41, 51] noLoop 100 mixed rfl Try.func40 (by kernel_rfl) (forall_cons c53 forall_nil) fun l0 hl0 hp => by
    obtain ⟨x0, l1, rfl, hl1⟩ := canon_int hl0
    obtain ⟨y0, l2, rfl, hl2⟩ := canon_int hl1
    obtain ⟨z0, l3, rfl, hl3⟩ := canon_int hl2
    obtain ⟨x1, l4, rfl, hl4⟩ := canon_int hl3
    obtain ⟨y1, l5, rfl, hl5⟩ := canon_int hl4
    obtain ⟨z1, l6, rfl, hl6⟩ := canon_int hl5
    cases canon_nil hl6
    clear hl6 hl5 hl4 hl3 hl2 hl1 hl0
    show T.holds _ _ _ (resQ Φ fun rs => rs = [.int (rBck0 x0 y0 z0 x1 y1 z1)])
    rw [t40]
    have r0 : ∀ x y z, rat0 x y z 0 = x := fun _ _ _ => rfl
    have r1 : ∀ x y z, rat0 x y z 1 = y := fun _ _ _ => rfl
    have r2 : ∀ x y z, rat0 x y z 2 = z := fun _ _ _ => rfl
    simp only [r0, r1, r2, nearC, and_chain]
    have hO : (cmpI .lss x0 x1 && (cmpI .lss y0 y1 && cmpI .lss z0 z1)) = decide (x0 < x1 ∧ y0 < y1 ∧ z0 < z1) := by simp only [lss_d, Bool.decide_and]
    have hX : (inC x0 && (inC x1 && (inC y0 && (inC y1 && (inC z0 && inC z1))))) = inB x0 y0 z0 x1 y1 z1 := by simp only [inB, in3]; ac_rfl
    rw [hO, hX]
    unfold rBck0 chkB
    cases inB x0 y0 z0 x1 y1 z1
    · rfl
    · by_cases o : x0 < x1 ∧ y0 < y1 ∧ z0 < z1
      · rw [decide_eq_true o, if_pos o]; rfl
      · rw [decide_eq_false o, if_neg o]; rfl

theorem c14 : CT Try.prog sigs Φ 14 :=
  ct_of [35] [41, 51] noLoop 100 mixed rfl Try.func14 (by kernel_rfl) (forall_cons c35 forall_nil) fun l0 hl0 hp => by
    obtain ⟨a, l1, rfl, hl1⟩ := canon_int hl0
    obtain ⟨b, l2, rfl, hl2⟩ := canon_int hl1
    obtain ⟨c, l3, rfl, hl3⟩ := canon_int hl2
    obtain ⟨d, l4, rfl, hl4⟩ := canon_int hl3
    cases canon_nil hl4
    clear hl4 hl3 hl2 hl1 hl0
    show T.holds _ _ _ (resQ Φ fun rs => rs = [.int (chk0 a b c d)])
    rw [t14]
    simp only [fct0, fct1, fct2, nearF, nearD, and_chain]
    have hO : (cmpI .eql a 0 && (cmpI .eql b 0 && cmpI .eql c 0)) = decide (a = 0 ∧ b = 0 ∧ c = 0) := by simp only [eql_d, Bool.decide_and]
    have hX : (inF a && (inF b && (inF c && inD d))) = inH a b c d := by simp only [inH]; ac_rfl
    rw [hO, hX]
    unfold chk0 chkH
    cases inH a b c d
    · rfl
    · by_cases o : a = 0 ∧ b = 0 ∧ c = 0
      · rw [decide_eq_true o, if_pos o]; rfl
      · rw [decide_eq_false o, if_neg o]; rfl

theorem c15 : CT Try.prog sigs Φ 15 :=
  ct_of [36] [41, 51] noLoop 100 mixed rfl Try.func15 (by kernel_rfl) (forall_cons c36 forall_nil) fun l0 hl0 hp => by
    obtain ⟨a, l1, rfl, hl1⟩ := canon_int hl0
    obtain ⟨b, l2, rfl, hl2⟩ := canon_int hl1
    obtain ⟨c, l3, rfl, hl3⟩ := canon_int hl2
    obtain ⟨d, l4, rfl, hl4⟩ := canon_int hl3
    cases canon_nil hl4
    clear hl4 hl3 hl2 hl1 hl0
    show T.holds _ _ _ (resQ Φ fun rs => rs = [.int (rChk0 a b c d)])
    rw [t15]
    simp only [rfc0, nearD, and_chain]
    have hO : (cmpI .eql a 0 && (cmpI .eql b 0 && cmpI .eql c 0)) = decide (a = 0 ∧ b = 0 ∧ c = 0) := by simp only [eql_d, Bool.decide_and]
    have hX : (inF a && (inF b && (inF c && inD d))) = inH a b c d := by simp only [inH]; ac_rfl
    rw [hO, hX]
    unfold rChk0 chkH
    cases inH a b c d
    · rfl
    · by_cases o : a = 0 ∧ b = 0 ∧ c = 0
      · rw [decide_eq_true o, if_pos o]; rfl
      · rw [decide_eq_false o, if_neg o]; rfl

theorem c20 : CT Try.prog sigs Φ 20 :=
  ct_of [15, 40] [41, 51] noLoop 100 mixed rfl Try.func20 (by kernel_rfl) (forall_cons c15 (forall_cons c40 forall_nil)) fun l0 hl0 hp => by
    obtain ⟨a, l1, rfl, hl1⟩ := canon_int hl0
    obtain ⟨b, l2, rfl, hl2⟩ := canon_int hl1
    obtain ⟨c, l3, rfl, hl3⟩ := canon_int hl2
    obtain ⟨d, l4, rfl, hl4⟩ := canon_int hl3
    obtain ⟨x0, l5, rfl, hl5⟩ := canon_int hl4
    obtain ⟨y0, l6, rfl, hl6⟩ := canon_int hl5
    obtain ⟨z0, l7, rfl, hl7⟩ := canon_int hl6
    obtain ⟨x1, l8, rfl, hl8⟩ := canon_int hl7
    obtain ⟨y1, l9, rfl, hl9⟩ := canon_int hl8
    obtain ⟨z1, l10, rfl, hl10⟩ := canon_int hl9
    cases canon_nil hl10
    clear hl10 hl9 hl8 hl7 hl6 hl5 hl4 hl3 hl2 hl1 hl0
    show T.holds _ _ _ (resQ Φ fun rs => rs = [.int (rVld0 a b c d x0 y0 z0 x1 y1 z1)])
    rw [t20]
    simp only [rVld0, rChk0, rBck0, eql_d]
    by_cases h : chkH a b c d = 0 <;> simp [chk2, h]

theorem c38 : CT Try.prog sigs Φ 38 :=
  ct_of [14, 52] [41, 51] noLoop 100 mixed rfl Try.func38 (by kernel_rfl) (forall_cons c14 (forall_cons c52 forall_nil)) fun l0 hl0 hp => by
    obtain ⟨a, l1, rfl, hl1⟩ := canon_int hl0
    obtain ⟨b, l2, rfl, hl2⟩ := canon_int hl1
    obtain ⟨c, l3, rfl, hl3⟩ := canon_int hl2
    obtain ⟨d, l4, rfl, hl4⟩ := canon_int hl3
    obtain ⟨x0, l5, rfl, hl5⟩ := canon_int hl4
    obtain ⟨y0, l6, rfl, hl6⟩ := canon_int hl5
    obtain ⟨z0, l7, rfl, hl7⟩ := canon_int hl6
    obtain ⟨x1, l8, rfl, hl8⟩ := canon_int hl7
    obtain ⟨y1, l9, rfl, hl9⟩ := canon_int hl8
    obtain ⟨z1, l10, rfl, hl10⟩ := canon_int hl9
    cases canon_nil hl10
    clear hl10 hl9 hl8 hl7 hl6 hl5 hl4 hl3 hl2 hl1 hl0
    show T.holds _ _ _ (resQ Φ fun rs => rs = [.int (ck20 a b c d x0 y0 z0 x1 y1 z1)])
    rw [t38]
    simp only [ck20, chk0, bck0, eql_d]
    by_cases h : chkH a b c d = 0 <;> simp [chk2, h]

theorem c17 : CT Try.prog sigs Φ 17 :=
  ct_of [] [41, 51] noLoop 100 mixed rfl Try.func17 (by kernel_rfl) forall_nil fun l0 hl0 hp => by
    obtain ⟨a, l1, rfl, hl1⟩ := canon_int hl0
    obtain ⟨b, l2, rfl, hl2⟩ := canon_int hl1
    obtain ⟨c, l3, rfl, hl3⟩ := canon_int hl2
    obtain ⟨d, l4, rfl, hl4⟩ := canon_int hl3
    obtain ⟨x, l5, rfl, hl5⟩ := canon_int hl4
    obtain ⟨y, l6, rfl, hl6⟩ := canon_int hl5
    obtain ⟨z, l7, rfl, hl7⟩ := canon_int hl6
    cases canon_nil hl7
    clear hl7 hl6 hl5 hl4 hl3 hl2 hl1 hl0
    have hp : rValP a b c d x y z = true := hp
    show T.holds _ _ _ (resQ Φ fun rs => rs = [.int (rVal0 a b c d x y z)])
    rw [t17]
    simp only [rValP, Bool.and_eq_true, inH_iff, in3_iff] at hp
    have m1 := mul_bd (a := a) (b := x) (A := 1000) (B := 1000000) (by omega) (by omega) (by omega) (by omega)
    have m2 := mul_bd (a := b) (b := y) (A := 1000) (B := 1000000) (by omega) (by omega) (by omega) (by omega)
    have m3 := mul_bd (a := c) (b := z) (A := 1000) (B := 1000000) (by omega) (by omega) (by omega) (by omega)
    rw [ar_mul (a := a) (by omega) (by omega), ar_mul (a := b) (by omega) (by omega), ar_mul (a := c) (by omega) (by omega), ar_add (a := a * x) (by omega) (by omega), ar_add (by omega) (by omega), ar_sub (by omega) (by omega)]
    rfl

theorem c13 : CT Try.prog sigs Φ 13 :=
  ct_of [14, 33, 34, 35] [41, 51] noLoop 100 mixed rfl Try.func13 (by kernel_rfl) (forall_cons c14 (forall_cons c33 (forall_cons c34 (forall_cons c35 forall_nil)))) fun l0 hl0 hp => by
    obtain ⟨a, l1, rfl, hl1⟩ := canon_int hl0
    obtain ⟨b, l2, rfl, hl2⟩ := canon_int hl1
    obtain ⟨c, l3, rfl, hl3⟩ := canon_int hl2
    obtain ⟨d, l4, rfl, hl4⟩ := canon_int hl3
    obtain ⟨x, l5, rfl, hl5⟩ := canon_int hl4
    obtain ⟨y, l6, rfl, hl6⟩ := canon_int hl5
    obtain ⟨z, l7, rfl, hl7⟩ := canon_int hl6
    cases canon_nil hl7
    clear hl7 hl6 hl5 hl4 hl3 hl2 hl1 hl0
    show T.holds _ _ _ (resQ Φ fun rs => rs = [.int (vlu0 a b c d x y z), .int (vlu1 a b c d x y z)])
    rw [t13]
    simp only [chk0, vck0, fct0, fct1, fct2, prt0, prt1, prt2, vlu0, vlu1, eql_d]
    by_cases h : chkH a b c d = 0
    · by_cases g : in3 x y z = true
      · have hp := (chkH_ok.1 h).1
        have gp := g
        simp only [inH_iff] at hp
        simp only [in3_iff] at gp
        have m1 := mul_bd (a := a) (b := x) (A := 1000) (B := 1000000) (by omega) (by omega) (by omega) (by omega)
        have m2 := mul_bd (a := b) (b := y) (A := 1000) (B := 1000000) (by omega) (by omega) (by omega) (by omega)
        have m3 := mul_bd (a := c) (b := z) (A := 1000) (B := 1000000) (by omega) (by omega) (by omega) (by omega)
        rw [ar_mul (a := a) (by omega) (by omega), ar_mul (a := b) (by omega) (by omega), ar_mul (a := c) (by omega) (by omega), ar_sub (a := 0) (by omega) (by omega), ar_add (a := 0 - d) (by omega) (by omega), ar_add (a := 0 - d + a * x) (by omega) (by omega), ar_add (by omega) (by omega)]
        have e : 0 - d + a * x + b * y + c * z = valE a b c d x y z := by unfold valE; omega
        rw [e]
        simp [h, g]
      · simp [h, g]
    · simp [h]

theorem c39 : CT Try.prog sigs Φ 39 :=
  ct_of [34, 35] [41, 51] noLoop 100 mixed rfl Try.func39 (by kernel_rfl) (forall_cons c34 (forall_cons c35 forall_nil)) fun l0 hl0 hp => by
    obtain ⟨a, l1, rfl, hl1⟩ := canon_int hl0
    obtain ⟨b, l2, rfl, hl2⟩ := canon_int hl1
    obtain ⟨c, l3, rfl, hl3⟩ := canon_int hl2
    obtain ⟨d, l4, rfl, hl4⟩ := canon_int hl3
    obtain ⟨x0, l5, rfl, hl5⟩ := canon_int hl4
    obtain ⟨y0, l6, rfl, hl6⟩ := canon_int hl5
    obtain ⟨z0, l7, rfl, hl7⟩ := canon_int hl6
    obtain ⟨x1, l8, rfl, hl8⟩ := canon_int hl7
    obtain ⟨y1, l9, rfl, hl9⟩ := canon_int hl8
    obtain ⟨z1, l10, rfl, hl10⟩ := canon_int hl9
    cases canon_nil hl10
    clear hl10 hl9 hl8 hl7 hl6 hl5 hl4 hl3 hl2 hl1 hl0
    have hp : exsP a b c d x0 y0 z0 x1 y1 z1 = true := hp
    show T.holds _ _ _ (resQ Φ fun rs => rs = [.int (exs0 a b c d x0 y0 z0 x1 y1 z1), .int (exs1 a b c d x0 y0 z0 x1 y1 z1)])
    rw [t39]
    simp only [exsP, Bool.and_eq_true, inH_iff, inB, in3_iff] at hp
    have m0 := mul_bd (a := a) (b := x0) (A := 1000) (B := 1000000) (by omega) (by omega) (by omega) (by omega)
    have m1 := mul_bd (a := a) (b := x1) (A := 1000) (B := 1000000) (by omega) (by omega) (by omega) (by omega)
    have m2 := mul_bd (a := b) (b := y0) (A := 1000) (B := 1000000) (by omega) (by omega) (by omega) (by omega)
    have m3 := mul_bd (a := b) (b := y1) (A := 1000) (B := 1000000) (by omega) (by omega) (by omega) (by omega)
    have m4 := mul_bd (a := c) (b := z0) (A := 1000) (B := 1000000) (by omega) (by omega) (by omega) (by omega)
    have m5 := mul_bd (a := c) (b := z1) (A := 1000) (B := 1000000) (by omega) (by omega) (by omega) (by omega)
    simp only [fct0, fct1, fct2, prt0, prt1, prt2]
    rw [ar_mul (a := a) (b := x0) (by omega) (by omega), ar_mul (a := a) (b := x1) (by omega) (by omega), ar_mul (a := b) (b := y0) (by omega) (by omega), ar_mul (a := b) (b := y1) (by omega) (by omega), ar_mul (a := c) (b := z0) (by omega) (by omega), ar_mul (a := c) (b := z1) (by omega) (by omega)]
    have n1 := mn_bd m0 m1
    have n2 := mn_bd m2 m3
    have n3 := mn_bd m4 m5
    have k1 := mx_bd m0 m1
    have k2 := mx_bd m2 m3
    have k3' := mx_bd m4 m5
    unfold exs0 exs1 loE hiE
    generalize mnI (a * x0) (a * x1) = u1 at *
    generalize mnI (b * y0) (b * y1) = u2 at *
    generalize mnI (c * z0) (c * z1) = u3 at *
    generalize mxI (a * x0) (a * x1) = w1 at *
    generalize mxI (b * y0) (b * y1) = w2 at *
    generalize mxI (c * z0) (c * z1) = w3 at *
    rw [ar_sub (a := 0) (by omega) (by omega), ar_add (a := 0 - d) (b := u1) (by omega) (by omega), ar_add (a := 0 - d + u1) (by omega) (by omega), ar_add (a := 0 - d + u1 + u2) (by omega) (by omega), ar_add (a := 0 - d) (b := w1) (by omega) (by omega), ar_add (a := 0 - d + w1) (by omega) (by omega), ar_add (a := 0 - d + w1 + w2) (by omega) (by omega)]
    have e1 : 0 - d + u1 + u2 + u3 = u1 + u2 + u3 - d := by omega
    have e2 : 0 - d + w1 + w2 + w3 = w1 + w2 + w3 - d := by omega
    rw [e1, e2]

theorem c18 : CT Try.prog sigs Φ 18 :=
  ct_of [38, 39] [41, 51] noLoop 100 mixed rfl Try.func18 (by kernel_rfl) (forall_cons c38 (forall_cons c39 forall_nil)) fun l0 hl0 hp => by
    obtain ⟨a, l1, rfl, hl1⟩ := canon_int hl0
    obtain ⟨b, l2, rfl, hl2⟩ := canon_int hl1
    obtain ⟨c, l3, rfl, hl3⟩ := canon_int hl2
    obtain ⟨d, l4, rfl, hl4⟩ := canon_int hl3
    obtain ⟨x0, l5, rfl, hl5⟩ := canon_int hl4
    obtain ⟨y0, l6, rfl, hl6⟩ := canon_int hl5
    obtain ⟨z0, l7, rfl, hl7⟩ := canon_int hl6
    obtain ⟨x1, l8, rfl, hl8⟩ := canon_int hl7
    obtain ⟨y1, l9, rfl, hl9⟩ := canon_int hl8
    obtain ⟨z1, l10, rfl, hl10⟩ := canon_int hl9
    cases canon_nil hl10
    clear hl10 hl9 hl8 hl7 hl6 hl5 hl4 hl3 hl2 hl1 hl0
    show T.holds _ _ _ (resQ Φ fun rs => rs = [.int (ext0 a b c d x0 y0 z0 x1 y1 z1), .int (ext1 a b c d x0 y0 z0 x1 y1 z1), .int (ext2 a b c d x0 y0 z0 x1 y1 z1)])
    rw [t18]
    simp only [ck20, exs0, exs1, ext0, ext1, ext2, eql_d]
    by_cases h : chk2 a b c d x0 y0 z0 x1 y1 z1 = 0
    · have h' := chk2_ok.1 h
      have hP : exsP a b c d x0 y0 z0 x1 y1 z1 = true := by
        unfold exsP
        rw [(chkH_ok.1 h'.1).1, (chkB_ok.1 h'.2).1]
        rfl
      rw [hP, h]
      simp
    · simp [h]

theorem c19 : CT Try.prog sigs Φ 19 :=
  ct_of [18] [41, 51] noLoop 100 mixed rfl Try.func19 (by kernel_rfl) (forall_cons c18 forall_nil) fun l0 hl0 hp => by
    obtain ⟨a, l1, rfl, hl1⟩ := canon_int hl0
    obtain ⟨b, l2, rfl, hl2⟩ := canon_int hl1
    obtain ⟨c, l3, rfl, hl3⟩ := canon_int hl2
    obtain ⟨d, l4, rfl, hl4⟩ := canon_int hl3
    obtain ⟨x0, l5, rfl, hl5⟩ := canon_int hl4
    obtain ⟨y0, l6, rfl, hl6⟩ := canon_int hl5
    obtain ⟨z0, l7, rfl, hl7⟩ := canon_int hl6
    obtain ⟨x1, l8, rfl, hl8⟩ := canon_int hl7
    obtain ⟨y1, l9, rfl, hl9⟩ := canon_int hl8
    obtain ⟨z1, l10, rfl, hl10⟩ := canon_int hl9
    cases canon_nil hl10
    clear hl10 hl9 hl8 hl7 hl6 hl5 hl4 hl3 hl2 hl1 hl0
    show T.holds _ _ _ (resQ Φ fun rs => rs = [.int (sid0 a b c d x0 y0 z0 x1 y1 z1), .int (sid1 a b c d x0 y0 z0 x1 y1 z1)])
    rw [t19]
    simp only [ext0, ext1, ext2, sid0, sid1, eql_d, lss_d]
    by_cases h : chk2 a b c d x0 y0 z0 x1 y1 z1 = 0
    · simp only [h, if_true]
      unfold sidE
      generalize loE a b c d x0 y0 z0 x1 y1 z1 = lo
      generalize hiE a b c d x0 y0 z0 x1 y1 z1 = hi
      by_cases h1 : 0 < hi
      · have h1' : ¬ hi ≤ 0 := by omega
        by_cases h2 : lo < 0
        · have h2' : ¬ 0 ≤ lo := by omega
          simp [h1, h1', h2, h2']
        · have h2' : 0 ≤ lo := by omega
          simp [h1, h1', h2, h2']
      · have h1' : hi ≤ 0 := by omega
        simp [h1, h1']
    · simp [h]

theorem c42 : CT Try.prog sigs Φ 42 :=
  ct_of [] [41, 51] noLoop 100 mixed rfl Try.func42 (by kernel_rfl) forall_nil fun l0 hl0 hp => by
    obtain ⟨a, l1, rfl, hl1⟩ := canon_int hl0
    obtain ⟨b, l2, rfl, hl2⟩ := canon_int hl1
    cases canon_nil hl2
    clear hl2 hl1 hl0
    have hp : flrP a b = true := hp
    show T.holds _ _ _ (resQ Φ fun rs => rs = [.int (flr0 a b)])
    rw [t42]
    simp only [flrP, Bool.and_eq_true, decide_eq_true_eq] at hp
    obtain ⟨⟨⟨p1, p2⟩, p3⟩, p4⟩ := hp
    have hb : (!(cmpI .eql b 0)) = true := by rw [eql_d, decide_eq_false (by omega)]; rfl
    have t := tdiv_bd (x := a) (k := b) (B := 100000000000) p3 p4
    rw [hb, ar_quo (by omega) (by omega), ar_sub (by omega) (by omega)]
    show cond (decide (a.tmod b < 0)) _ _
    have q1 := Int.tdiv_eq_ediv (a := a) (b := b)
    have q2 := Int.tmod_eq_emod (a := a) (b := b)
    have q3 := Int.emod_nonneg a (show b ≠ 0 by omega)
    have q4 := Int.emod_lt_of_pos a p1
    by_cases c : 0 ≤ a ∨ b ∣ a
    · rw [if_pos c] at q1 q2
      rw [decide_eq_false (by omega)]
      show [Sc.int (a.tdiv b)] = [Sc.int (a / b)]
      rw [q1, Int.add_zero]
    · rw [if_neg c] at q1 q2
      rw [decide_eq_true (by omega)]
      show [Sc.int (a.tdiv b - 1)] = [Sc.int (a / b)]
      rw [q1, Int.sign_eq_one_of_pos p1, Int.add_sub_cancel]

theorem c50 : CT Try.prog sigs Φ 50 :=
  ct_of [] [41, 51] noLoop 100 mixed rfl Try.func50 (by kernel_rfl) forall_nil fun l0 hl0 hp => by
    obtain ⟨a, l1, rfl, hl1⟩ := canon_int hl0
    obtain ⟨b, l2, rfl, hl2⟩ := canon_int hl1
    cases canon_nil hl2
    clear hl2 hl1 hl0
    have hp : rflrP a b = true := hp
    show T.holds _ _ _ (resQ Φ fun rs => rs = [.int (rflr0 a b)])
    rw [t50]
    simp only [rflrP, Bool.and_eq_true, decide_eq_true_eq] at hp
    obtain ⟨⟨⟨p1, p2⟩, p3⟩, p4⟩ := hp
    have hb : (!(cmpI .eql b 0)) = true := by rw [eql_d, decide_eq_false (by omega)]; rfl
    have t := tdiv_bd (x := a) (k := b) (B := 100000000000) p3 p4
    rw [hb, ar_quo (by omega) (by omega), ar_sub (by omega) (by omega)]
    show cond (decide (a.tmod b < 0)) _ _
    have q1 := Int.tdiv_eq_ediv (a := a) (b := b)
    have q2 := Int.tmod_eq_emod (a := a) (b := b)
    have q3 := Int.emod_nonneg a (show b ≠ 0 by omega)
    have q4 := Int.emod_lt_of_pos a p1
    by_cases c : 0 ≤ a ∨ b ∣ a
    · rw [if_pos c] at q1 q2
      rw [decide_eq_false (by omega)]
      show [Sc.int (a.tdiv b)] = [Sc.int (a / b)]
      rw [q1, Int.add_zero]
    · rw [if_neg c] at q1 q2
      rw [decide_eq_true (by omega)]
      show [Sc.int (a.tdiv b - 1)] = [Sc.int (a / b)]
      rw [q1, Int.sign_eq_one_of_pos p1, Int.add_sub_cancel]

end Go.Proofs.Ytldnlbfchkdoiaa
