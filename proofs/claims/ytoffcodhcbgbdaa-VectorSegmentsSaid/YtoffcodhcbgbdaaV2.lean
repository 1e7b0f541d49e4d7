/- The vector seat: each function's contract. -/
import Derived.Test.YtoffcodhcbgbdaaV1
namespace Go.Proofs.Ytoffcodhcbgbdaa
open Go.Sx
set_option linter.unusedVariables false
set_option linter.unusedSimpArgs false
set_option maxRecDepth 100000

theorem tri (a b : Int) : ((a < b) = True ∧ (b < a) = False ∧ (a = b) = False ∧ (b = a) = False) ∨ ((a < b) = False ∧ (b < a) = False ∧ (a = b) = True ∧ (b = a) = True) ∨ ((a < b) = False ∧ (b < a) = True ∧ (a = b) = False ∧ (b = a) = False) := by
  rcases Int.lt_trichotomy a b with h | h | h
  · refine .inl ⟨eq_true h, eq_false (by omega), eq_false (by omega), eq_false (by omega)⟩
  · refine .inr (.inl ⟨eq_false (by omega), eq_false (by omega), eq_true h, eq_true h.symm⟩)
  · refine .inr (.inr ⟨eq_false (by omega), eq_true h, eq_false (by omega), eq_false (by omega)⟩)
theorem posd (w : Int) : ((0 < w) = True ∧ (w ≤ 0) = False) ∨ ((0 < w) = False ∧ (w ≤ 0) = True) := by
  by_cases h : 0 < w
  · exact .inl ⟨eq_true h, eq_false (by omega)⟩
  · exact .inr ⟨eq_false h, eq_true (by omega)⟩
theorem nlt_d (a b : Int) : (!decide (a < b)) = decide (b ≤ a) := by
  by_cases h : a < b
  · rw [decide_eq_true h, decide_eq_false (by omega)]; rfl
  · rw [decide_eq_false h, decide_eq_true (by omega)]; rfl
theorem sum3 {a b c : Int} (ha : -100000000000000 ≤ a ∧ a ≤ 100000000000000) (hb : -100000000000000 ≤ b ∧ b ≤ 100000000000000) (hc : -100000000000000 ≤ c ∧ c ≤ 100000000000000) :
    arI .add .i64 (arI .add .i64 a b) c = a + b + c := by
  rw [ar_add (a := a) (by omega) (by omega), ar_add (by omega) (by omega)]
theorem sum03 {a b c : Int} (ha : -100000000000000 ≤ a ∧ a ≤ 100000000000000) (hb : -100000000000000 ≤ b ∧ b ≤ 100000000000000) (hc : -100000000000000 ≤ c ∧ c ≤ 100000000000000) :
    arI .add .i64 (arI .add .i64 (arI .add .i64 0 a) b) c = a + b + c := by
  rw [ar_add (a := 0) (by omega) (by omega), Int.zero_add, sum3 ha hb hc]
theorem mixed : Try.prog.follows .mixedOrders = true := by kernel_rfl
theorem lss_d (a b : Int) : cmpI .lss a b = decide (a < b) := rfl
theorem eql_d (a b : Int) : cmpI .eql a b = decide (a = b) := rfl
theorem near_chain (x : Int) (A B : Prop) : cond (cmpI .lss x (-1000000)) A (cond (cmpI .lss 1000000 x) A B) = cond (inC x) B A := by
  unfold inC
  rw [lss_d, lss_d]
  by_cases h1 : x < -1000000
  · rw [decide_eq_true h1, decide_eq_false (p := -1000000 ≤ x) (by omega)]; rfl
  · by_cases h2 : 1000000 < x
    · rw [decide_eq_false h1, decide_eq_true h2, decide_eq_false (p := x ≤ 1000000) (by omega), Bool.and_false]; rfl
    · rw [decide_eq_false h1, decide_eq_false h2, decide_eq_true (p := x ≤ 1000000) (by omega), decide_eq_true (p := -1000000 ≤ x) (by omega)]; rfl
theorem and_chain (x y : Bool) (A B : Prop) : cond x (cond y B A) A = cond (x && y) B A := by cases x <;> rfl
theorem or_chain (x y : Bool) (A B : Prop) : cond x A (cond y A B) = cond (x || y) A B := by cases x <;> rfl
theorem cond_if (x : Bool) (A B : Prop) : cond x A B = if x = true then A else B := by cases x <;> rfl
theorem inC_iff (n : Int) : (inC n = true) = (-1000000 ≤ n ∧ n ≤ 1000000) := by simp [inC]
theorem inD_iff (n : Int) : (inD n = true) = (-2000000 ≤ n ∧ n ≤ 2000000) := by simp [inD]
theorem mxI_le (a b c : Int) : (mxI a b ≤ c) ↔ a ≤ c ∧ b ≤ c := by unfold mxI; split <;> omega

theorem c36 : CT Try.prog sigs Φ 36 :=
  ct_of [] [41, 51, 53, 52] noLoop 100 mixed rfl Try.func36 (by kernel_rfl) forall_nil fun l0 hl0 hp => by
    obtain ⟨x, l1, rfl, hl1⟩ := canon_int hl0
    obtain ⟨y, l2, rfl, hl2⟩ := canon_int hl1
    obtain ⟨z, l3, rfl, hl3⟩ := canon_int hl2
    cases canon_nil hl3
    clear hl3 hl2 hl1 hl0
    show T.holds _ _ _ (resQ Φ fun rs => rs = [.int (prt0 x y z), .int (prt1 x y z), .int (prt2 x y z)])
    rw [t36]
    rfl

theorem c37 : CT Try.prog sigs Φ 37 :=
  ct_of [] [41, 51, 53, 52] noLoop 100 mixed rfl Try.func37 (by kernel_rfl) forall_nil fun l0 hl0 hp => by
    obtain ⟨x, l1, rfl, hl1⟩ := canon_int hl0
    obtain ⟨y, l2, rfl, hl2⟩ := canon_int hl1
    obtain ⟨z, l3, rfl, hl3⟩ := canon_int hl2
    cases canon_nil hl3
    clear hl3 hl2 hl1 hl0
    show T.holds _ _ _ (resQ Φ fun rs => rs = [.int (whl0 x y z), .int (whl1 x y z), .int (whl2 x y z)])
    rw [t37]
    rfl

theorem c32 : CT Try.prog sigs Φ 32 :=
  ct_of [] [41, 51, 53, 52] noLoop 100 mixed rfl Try.func32 (by kernel_rfl) forall_nil fun l0 hl0 hp => by
    obtain ⟨x, l1, rfl, hl1⟩ := canon_int hl0
    obtain ⟨y, l2, rfl, hl2⟩ := canon_int hl1
    obtain ⟨z, l3, rfl, hl3⟩ := canon_int hl2
    cases canon_nil hl3
    clear hl3 hl2 hl1 hl0
    show T.holds _ _ _ (resQ Φ fun rs => rs = [.int (chk0 x y z)])
    rw [t32]
    simp only [near_chain, and_chain, chk0, in2, in3, Bool.and_assoc]
    generalize (inC x && (inC y && inC z)) = b
    cases b <;> rfl

theorem c38 : CT Try.prog sigs Φ 38 :=
  ct_of [] [41, 51, 53, 52] noLoop 100 mixed rfl Try.func38 (by kernel_rfl) forall_nil fun l0 hl0 hp => by
    obtain ⟨n, l1, rfl, hl1⟩ := canon_int hl0
    cases canon_nil hl1
    clear hl1 hl0
    show T.holds _ _ _ (resQ Φ fun rs => rs = [.bool (rin0 n)])
    rw [t38]
    unfold rin0 inC
    rw [lss_d, lss_d, nlt_d]
    by_cases h1 : n < -1000000
    · rw [decide_eq_true h1, decide_eq_false (p := -1000000 ≤ n) (by omega)]; rfl
    · rw [decide_eq_false h1, decide_eq_true (p := -1000000 ≤ n) (by omega)]; rfl

theorem c14 : CT Try.prog sigs Φ 14 :=
  ct_of [38] [41, 51, 53, 52] noLoop 100 mixed rfl Try.func14 (by kernel_rfl) (forall_cons c38 forall_nil) fun l0 hl0 hp => by
    obtain ⟨x, l1, rfl, hl1⟩ := canon_int hl0
    obtain ⟨y, l2, rfl, hl2⟩ := canon_int hl1
    obtain ⟨z, l3, rfl, hl3⟩ := canon_int hl2
    cases canon_nil hl3
    clear hl3 hl2 hl1 hl0
    show T.holds _ _ _ (resQ Φ fun rs => rs = [.bool (rIn0 x y z)])
    rw [t14]
    simp only [rIn0, in3, rin0]
    cases inC x <;> cases inC y <;> rfl

theorem c18 : CT Try.prog sigs Φ 18 :=
  ct_of [38] [41, 51, 53, 52] noLoop 100 mixed rfl Try.func18 (by kernel_rfl) (forall_cons c38 forall_nil) fun l0 hl0 hp => by
    obtain ⟨x, l1, rfl, hl1⟩ := canon_int hl0
    obtain ⟨y, l2, rfl, hl2⟩ := canon_int hl1
    cases canon_nil hl2
    clear hl2 hl1 hl0
    show T.holds _ _ _ (resQ Φ fun rs => rs = [.bool (rInP0 x y)])
    rw [t18]
    simp only [rInP0, in2, rin0]
    cases inC x <;> rfl

theorem c44 : CT Try.prog sigs Φ 44 :=
  ct_of [] [41, 51, 53, 52] noLoop 100 mixed rfl Try.func44 (by kernel_rfl) forall_nil fun l0 hl0 hp => by
    obtain ⟨b, l1, rfl, hl1⟩ := canon_bool hl0
    cases canon_nil hl1
    clear hl1 hl0
    show T.holds _ _ _ (resQ Φ fun rs => rs = [.int (one0 b)])
    rw [t44]
    cases b <;> rfl

theorem c47 : CT Try.prog sigs Φ 47 :=
  ct_of [] [41, 51, 53, 52] noLoop 100 mixed rfl Try.func47 (by kernel_rfl) forall_nil fun l0 hl0 hp => by
    obtain ⟨ax, l1, rfl, hl1⟩ := canon_int hl0
    obtain ⟨ay, l2, rfl, hl2⟩ := canon_int hl1
    obtain ⟨bx, l3, rfl, hl3⟩ := canon_int hl2
    obtain ⟨by', l4, rfl, hl4⟩ := canon_int hl3
    cases canon_nil hl4
    clear hl4 hl3 hl2 hl1 hl0
    show T.holds _ _ _ (resQ Φ fun rs => rs = [.bool (bef0 ax ay bx by')])
    rw [t47]
    simp only [bef0, lss_d, eql_d, cond_if, decide_eq_true_eq]
    split
    · simp [*]
    · split
      · simp [*]
      · simp [*]

theorem c46 : CT Try.prog sigs Φ 46 :=
  ct_of [47] [41, 51, 53, 52] noLoop 100 mixed rfl Try.func46 (by kernel_rfl) (forall_cons c47 forall_nil) fun l0 hl0 hp => by
    obtain ⟨ax, l1, rfl, hl1⟩ := canon_int hl0
    obtain ⟨ay, l2, rfl, hl2⟩ := canon_int hl1
    obtain ⟨bx, l3, rfl, hl3⟩ := canon_int hl2
    obtain ⟨by', l4, rfl, hl4⟩ := canon_int hl3
    cases canon_nil hl4
    clear hl4 hl3 hl2 hl1 hl0
    show T.holds _ _ _ (resQ Φ fun rs => rs = [.int (srt0 ax ay bx by'), .int (srt1 ax ay bx by'), .int (srt2 ax ay bx by'), .int (srt3 ax ay bx by')])
    rw [t46]
    simp only [srt0, srt1, srt2, srt3, bef0, cond_if, decide_eq_true_eq]
    split <;> rfl

theorem c48 : CT Try.prog sigs Φ 48 :=
  ct_of [] [41, 51, 53, 52] noLoop 100 mixed rfl Try.func48 (by kernel_rfl) forall_nil fun l0 hl0 hp => by
    obtain ⟨a, l1, rfl, hl1⟩ := canon_int hl0
    obtain ⟨b, l2, rfl, hl2⟩ := canon_int hl1
    cases canon_nil hl2
    clear hl2 hl1 hl0
    show T.holds _ _ _ (resQ Φ fun rs => rs = [.int (cmpI10 a b)])
    rw [t48]
    simp only [cmpI10, lss_d, eql_d, cond_if, decide_eq_true_eq]
    repeat' split
    all_goals (first | rfl | contradiction | (simp [*]; done) | (simp_all; done) | (exfalso; omega))

theorem c42 : CT Try.prog sigs Φ 42 :=
  ct_of [48] [41, 51, 53, 52] noLoop 100 mixed rfl Try.func42 (by kernel_rfl) (forall_cons c48 forall_nil) fun l0 hl0 hp => by
    obtain ⟨ax, l1, rfl, hl1⟩ := canon_int hl0
    obtain ⟨ay, l2, rfl, hl2⟩ := canon_int hl1
    obtain ⟨bx, l3, rfl, hl3⟩ := canon_int hl2
    obtain ⟨by', l4, rfl, hl4⟩ := canon_int hl3
    obtain ⟨cx, l5, rfl, hl5⟩ := canon_int hl4
    obtain ⟨cy, l6, rfl, hl6⟩ := canon_int hl5
    cases canon_nil hl6
    clear hl6 hl5 hl4 hl3 hl2 hl1 hl0
    show T.holds _ _ _ (resQ Φ fun rs => rs = [.int (tur0 ax ay bx by' cx cy)])
    rw [t42]
    simp only [tur0, cmpI10, sgn]

theorem c43 : CT Try.prog sigs Φ 43 :=
  ct_of [42] [41, 51, 53, 52] noLoop 100 mixed rfl Try.func43 (by kernel_rfl) (forall_cons c42 forall_nil) fun l0 hl0 hp => by
    obtain ⟨ax, l1, rfl, hl1⟩ := canon_int hl0
    obtain ⟨ay, l2, rfl, hl2⟩ := canon_int hl1
    obtain ⟨bx, l3, rfl, hl3⟩ := canon_int hl2
    obtain ⟨by', l4, rfl, hl4⟩ := canon_int hl3
    obtain ⟨cx, l5, rfl, hl5⟩ := canon_int hl4
    obtain ⟨cy, l6, rfl, hl6⟩ := canon_int hl5
    cases canon_nil hl6
    clear hl6 hl5 hl4 hl3 hl2 hl1 hl0
    show T.holds _ _ _ (resQ Φ fun rs => rs = [.bool (ons0 ax ay bx by' cx cy)])
    rw [t43]
    simp only [ons0, lss_d, eql_d, cond_if, decide_eq_true_eq, nlt_d]
    repeat' split
    all_goals (simp [*] <;> omega)

theorem c45 : CT Try.prog sigs Φ 45 :=
  ct_of [] [41, 51, 53, 52] noLoop 100 mixed rfl Try.func45 (by kernel_rfl) forall_nil fun l0 hl0 hp => by
    obtain ⟨a, l1, rfl, hl1⟩ := canon_int hl0
    obtain ⟨b, l2, rfl, hl2⟩ := canon_int hl1
    obtain ⟨c, l3, rfl, hl3⟩ := canon_int hl2
    obtain ⟨d, l4, rfl, hl4⟩ := canon_int hl3
    cases canon_nil hl4
    clear hl4 hl3 hl2 hl1 hl0
    have hp : cmnP a b c d = true := hp
    show T.holds _ _ _ (resQ Φ fun rs => rs = [.int (cmn0 a b c d)])
    rw [t45]
    simp only [cmnP, Bool.and_eq_true, inC_iff] at hp
    have b1 : mnI (mxI a b) (mxI c d) ≤ 1000000 ∧ -1000000 ≤ mnI (mxI a b) (mxI c d) := by unfold mxI mnI; constructor <;> (repeat' split) <;> omega
    have b2 : mxI (mnI a b) (mnI c d) ≤ 1000000 ∧ -1000000 ≤ mxI (mnI a b) (mnI c d) := by unfold mxI mnI; constructor <;> (repeat' split) <;> omega
    rw [ar_sub (by omega) (by omega), ar_add (by omega) (by omega)]
    rfl

theorem c16 : CT Try.prog sigs Φ 16 :=
  ct_of [42] [41, 51, 53, 52] noLoop 100 mixed rfl Try.func16 (by kernel_rfl) (forall_cons c42 forall_nil) fun l0 hl0 hp => by
    obtain ⟨ax, l1, rfl, hl1⟩ := canon_int hl0
    obtain ⟨ay, l2, rfl, hl2⟩ := canon_int hl1
    obtain ⟨bx, l3, rfl, hl3⟩ := canon_int hl2
    obtain ⟨by', l4, rfl, hl4⟩ := canon_int hl3
    obtain ⟨cx, l5, rfl, hl5⟩ := canon_int hl4
    obtain ⟨cy, l6, rfl, hl6⟩ := canon_int hl5
    cases canon_nil hl6
    clear hl6 hl5 hl4 hl3 hl2 hl1 hl0
    show T.holds _ _ _ (resQ Φ fun rs => rs = [.int (tn0 ax ay bx by' cx cy), .int (tn1 ax ay bx by' cx cy)])
    rw [t16]
    simp only [near_chain, and_chain, tn0, tn1, in2, in3, Bool.and_assoc]
    generalize (inC ax && (inC ay && (inC bx && (inC by' && (inC cx && inC cy))))) = b
    cases b <;> rfl

theorem c17 : CT Try.prog sigs Φ 17 :=
  ct_of [43] [41, 51, 53, 52] noLoop 100 mixed rfl Try.func17 (by kernel_rfl) (forall_cons c43 forall_nil) fun l0 hl0 hp => by
    obtain ⟨ax, l1, rfl, hl1⟩ := canon_int hl0
    obtain ⟨ay, l2, rfl, hl2⟩ := canon_int hl1
    obtain ⟨bx, l3, rfl, hl3⟩ := canon_int hl2
    obtain ⟨by', l4, rfl, hl4⟩ := canon_int hl3
    obtain ⟨cx, l5, rfl, hl5⟩ := canon_int hl4
    obtain ⟨cy, l6, rfl, hl6⟩ := canon_int hl5
    cases canon_nil hl6
    clear hl6 hl5 hl4 hl3 hl2 hl1 hl0
    show T.holds _ _ _ (resQ Φ fun rs => rs = [.bool (onn0 ax ay bx by' cx cy), .int (onn1 ax ay bx by' cx cy)])
    rw [t17]
    simp only [near_chain, and_chain, onn0, onn1]
    have hX : (inC ax && (inC ay && (inC bx && (inC by' && (inC cx && inC cy))))) = (in2 ax ay && in2 bx by' && in2 cx cy) := by simp only [in2, Bool.and_assoc]
    rw [hX]
    generalize (in2 ax ay && in2 bx by' && in2 cx cy) = b
    cases b <;> rfl

theorem c19 : CT Try.prog sigs Φ 19 :=
  ct_of [] [41, 51, 53, 52] noLoop 100 mixed rfl Try.func19 (by kernel_rfl) forall_nil fun l0 hl0 hp => by
    obtain ⟨ax, l1, rfl, hl1⟩ := canon_int hl0
    obtain ⟨ay, l2, rfl, hl2⟩ := canon_int hl1
    obtain ⟨bx, l3, rfl, hl3⟩ := canon_int hl2
    obtain ⟨by', l4, rfl, hl4⟩ := canon_int hl3
    obtain ⟨cx, l5, rfl, hl5⟩ := canon_int hl4
    obtain ⟨cy, l6, rfl, hl6⟩ := canon_int hl5
    cases canon_nil hl6
    clear hl6 hl5 hl4 hl3 hl2 hl1 hl0
    show T.holds _ _ _ (resQ Φ fun rs => rs = [.int (rTn0 ax ay bx by' cx cy)])
    rw [t19]
    simp only [rTn0, tur0, sgn]
    generalize arI .sub .i64 (arI .mul .i64 (arI .sub .i64 bx ax) (arI .sub .i64 cy ay)) (arI .mul .i64 (arI .sub .i64 by' ay) (arI .sub .i64 cx ax)) = n
    simp only [lss_d, cond_if, decide_eq_true_eq]
    repeat' split
    all_goals (first | rfl | contradiction | (simp [*]; done) | (simp_all; done) | (exfalso; omega))

theorem c20 : CT Try.prog sigs Φ 20 :=
  ct_of [19] [41, 51, 53, 52] noLoop 100 mixed rfl Try.func20 (by kernel_rfl) (forall_cons c19 forall_nil) fun l0 hl0 hp => by
    obtain ⟨ax, l1, rfl, hl1⟩ := canon_int hl0
    obtain ⟨ay, l2, rfl, hl2⟩ := canon_int hl1
    obtain ⟨bx, l3, rfl, hl3⟩ := canon_int hl2
    obtain ⟨by', l4, rfl, hl4⟩ := canon_int hl3
    obtain ⟨cx, l5, rfl, hl5⟩ := canon_int hl4
    obtain ⟨cy, l6, rfl, hl6⟩ := canon_int hl5
    cases canon_nil hl6
    clear hl6 hl5 hl4 hl3 hl2 hl1 hl0
    show T.holds _ _ _ (resQ Φ fun rs => rs = [.bool (rOn0 ax ay bx by' cx cy)])
    rw [t20]
    simp only [rOn0, rTn0, ons0, lss_d, eql_d, cond_if, decide_eq_true_eq, nlt_d]
    repeat' split
    all_goals (simp [*] <;> omega)

theorem c49 : CT Try.prog sigs Φ 49 :=
  ct_of [32] [41, 51, 53, 52] noLoop 100 mixed rfl Try.func49 (by kernel_rfl) (forall_cons c32 forall_nil) fun l0 hl0 hp => by
    obtain ⟨ax, l1, rfl, hl1⟩ := canon_int hl0
    obtain ⟨ay, l2, rfl, hl2⟩ := canon_int hl1
    obtain ⟨az, l3, rfl, hl3⟩ := canon_int hl2
    obtain ⟨bx, l4, rfl, hl4⟩ := canon_int hl3
    obtain ⟨by', l5, rfl, hl5⟩ := canon_int hl4
    obtain ⟨bz, l6, rfl, hl6⟩ := canon_int hl5
    cases canon_nil hl6
    clear hl6 hl5 hl4 hl3 hl2 hl1 hl0
    show T.holds _ _ _ (resQ Φ fun rs => rs = [.int (bth0 ax ay az bx by' bz)])
    rw [t49]
    simp only [bth0, chk0, eql_d, cond_if, decide_eq_true_eq]
    generalize in3 ax ay az = p
    generalize in3 bx by' bz = q
    cases p <;> cases q <;> rfl

theorem c23 : CT Try.prog sigs Φ 23 :=
  ct_of [36, 48] [41, 51, 53, 52] noLoop 100 mixed rfl Try.func23 (by kernel_rfl) (forall_cons c36 (forall_cons c48 forall_nil)) fun l0 hl0 hp => by
    obtain ⟨ax, l1, rfl, hl1⟩ := canon_int hl0
    obtain ⟨ay, l2, rfl, hl2⟩ := canon_int hl1
    obtain ⟨az, l3, rfl, hl3⟩ := canon_int hl2
    obtain ⟨bx, l4, rfl, hl4⟩ := canon_int hl3
    obtain ⟨by', l5, rfl, hl5⟩ := canon_int hl4
    obtain ⟨bz, l6, rfl, hl6⟩ := canon_int hl5
    cases canon_nil hl6
    clear hl6 hl5 hl4 hl3 hl2 hl1 hl0
    show T.holds _ _ _ (resQ Φ fun rs => rs = [.int (cmpV0 ax ay az bx by' bz)])
    rw [t23]
    simp only [cmpV0, cmp3, prt0, prt1, prt2, cmpI10, eql_d, cond_if, decide_eq_true_eq, Bool.and_eq_true]
    rcases tri ax bx with ⟨e1, e2, e3, e4⟩ | ⟨e1, e2, e3, e4⟩ | ⟨e1, e2, e3, e4⟩ <;> rcases tri ay by' with ⟨f1, f2, f3, f4⟩ | ⟨f1, f2, f3, f4⟩ | ⟨f1, f2, f3, f4⟩ <;> rcases tri az bz with ⟨g1, g2, g3, g4⟩ | ⟨g1, g2, g3, g4⟩ | ⟨g1, g2, g3, g4⟩ <;> simp [e1, e2, e3, e4, f1, f2, f3, f4, g1, g2, g3, g4]

theorem c33 : CT Try.prog sigs Φ 33 :=
  ct_of [] [41, 51, 53, 52] noLoop 100 mixed rfl Try.func33 (by kernel_rfl) forall_nil fun l0 hl0 hp => by
    obtain ⟨ax, l1, rfl, hl1⟩ := canon_int hl0
    obtain ⟨ay, l2, rfl, hl2⟩ := canon_int hl1
    obtain ⟨az, l3, rfl, hl3⟩ := canon_int hl2
    obtain ⟨bx, l4, rfl, hl4⟩ := canon_int hl3
    obtain ⟨by', l5, rfl, hl5⟩ := canon_int hl4
    obtain ⟨bz, l6, rfl, hl6⟩ := canon_int hl5
    cases canon_nil hl6
    clear hl6 hl5 hl4 hl3 hl2 hl1 hl0
    show T.holds _ _ _ (resQ Φ fun rs => rs = [.int (rCmp0 ax ay az bx by' bz)])
    rw [t33]
    simp only [rCmp0, cmp3, lss_d, eql_d, cond_if, decide_eq_true_eq, Bool.and_eq_true]
    rcases tri ax bx with ⟨e1, e2, e3, e4⟩ | ⟨e1, e2, e3, e4⟩ | ⟨e1, e2, e3, e4⟩ <;> rcases tri ay by' with ⟨f1, f2, f3, f4⟩ | ⟨f1, f2, f3, f4⟩ | ⟨f1, f2, f3, f4⟩ <;> rcases tri az bz with ⟨g1, g2, g3, g4⟩ | ⟨g1, g2, g3, g4⟩ | ⟨g1, g2, g3, g4⟩ <;> simp [e1, e2, e3, e4, f1, f2, f3, f4, g1, g2, g3, g4]

theorem c34 : CT Try.prog sigs Φ 34 :=
  ct_of [14] [41, 51, 53, 52] noLoop 100 mixed rfl Try.func34 (by kernel_rfl) (forall_cons c14 forall_nil) fun l0 hl0 hp => by
    obtain ⟨ax, l1, rfl, hl1⟩ := canon_int hl0
    obtain ⟨ay, l2, rfl, hl2⟩ := canon_int hl1
    obtain ⟨az, l3, rfl, hl3⟩ := canon_int hl2
    obtain ⟨bx, l4, rfl, hl4⟩ := canon_int hl3
    obtain ⟨by', l5, rfl, hl5⟩ := canon_int hl4
    obtain ⟨bz, l6, rfl, hl6⟩ := canon_int hl5
    obtain ⟨e, l7, rfl, hl7⟩ := canon_int hl6
    cases canon_nil hl7
    clear hl7 hl6 hl5 hl4 hl3 hl2 hl1 hl0
    show T.holds _ _ _ (resQ Φ fun rs => rs = [.bool (lsum0 ax ay az bx by' bz e)])
    rw [t34]
    simp only [lsum0, rIn0, eql_d, cond_if, decide_eq_true_eq]
    repeat' split
    all_goals (simp [*] <;> omega)

theorem c27 : CT Try.prog sigs Φ 27 :=
  ct_of [] [41, 51, 53, 52] noLoop 100 mixed rfl Try.func27 (by kernel_rfl) forall_nil fun l0 hl0 hp => by
    obtain ⟨ax, l1, rfl, hl1⟩ := canon_int hl0
    obtain ⟨ay, l2, rfl, hl2⟩ := canon_int hl1
    obtain ⟨az, l3, rfl, hl3⟩ := canon_int hl2
    obtain ⟨bx, l4, rfl, hl4⟩ := canon_int hl3
    obtain ⟨by', l5, rfl, hl5⟩ := canon_int hl4
    obtain ⟨bz, l6, rfl, hl6⟩ := canon_int hl5
    cases canon_nil hl6
    clear hl6 hl5 hl4 hl3 hl2 hl1 hl0
    have hp : rSubP ax ay az bx by' bz = true := hp
    show T.holds _ _ _ (resQ Φ fun rs => rs = [.int (rSub0 ax ay az bx by' bz), .int (rSub1 ax ay az bx by' bz), .int (rSub2 ax ay az bx by' bz)])
    rw [t27]
    simp only [rSubP, in3, Bool.and_eq_true, inC_iff] at hp
    rw [ar_sub (by omega) (by omega), ar_sub (by omega) (by omega), ar_sub (by omega) (by omega)]
    rfl

theorem c35 : CT Try.prog sigs Φ 35 :=
  ct_of [] [41, 51, 53, 52] noLoop 100 mixed rfl Try.func35 (by kernel_rfl) forall_nil fun l0 hl0 hp => by
    obtain ⟨ax, l1, rfl, hl1⟩ := canon_int hl0
    obtain ⟨ay, l2, rfl, hl2⟩ := canon_int hl1
    obtain ⟨az, l3, rfl, hl3⟩ := canon_int hl2
    obtain ⟨bx, l4, rfl, hl4⟩ := canon_int hl3
    obtain ⟨by', l5, rfl, hl5⟩ := canon_int hl4
    obtain ⟨bz, l6, rfl, hl6⟩ := canon_int hl5
    cases canon_nil hl6
    clear hl6 hl5 hl4 hl3 hl2 hl1 hl0
    have hp : rAddP ax ay az bx by' bz = true := hp
    show T.holds _ _ _ (resQ Φ fun rs => rs = [.int (rAdd0 ax ay az bx by' bz), .int (rAdd1 ax ay az bx by' bz), .int (rAdd2 ax ay az bx by' bz)])
    rw [t35]
    simp only [rAddP, in3, Bool.and_eq_true, inC_iff] at hp
    rw [ar_add (by omega) (by omega), ar_add (by omega) (by omega), ar_add (by omega) (by omega)]
    rfl

theorem c28 : CT Try.prog sigs Φ 28 :=
  ct_of [] [41, 51, 53, 52] noLoop 100 mixed rfl Try.func28 (by kernel_rfl) forall_nil fun l0 hl0 hp => by
    obtain ⟨ax, l1, rfl, hl1⟩ := canon_int hl0
    obtain ⟨ay, l2, rfl, hl2⟩ := canon_int hl1
    obtain ⟨az, l3, rfl, hl3⟩ := canon_int hl2
    obtain ⟨bx, l4, rfl, hl4⟩ := canon_int hl3
    obtain ⟨by', l5, rfl, hl5⟩ := canon_int hl4
    obtain ⟨bz, l6, rfl, hl6⟩ := canon_int hl5
    cases canon_nil hl6
    clear hl6 hl5 hl4 hl3 hl2 hl1 hl0
    have hp : rDotP ax ay az bx by' bz = true := hp
    show T.holds _ _ _ (resQ Φ fun rs => rs = [.int (rDot0 ax ay az bx by' bz)])
    rw [t28]
    simp only [rDotP, in4, Bool.and_eq_true, inD_iff] at hp
    have m0 := mul_bd (a := ax) (b := bx) (A := 2000000) (B := 2000000) (by omega) (by omega) (by omega) (by omega)
    have m1 := mul_bd (a := ay) (b := by') (A := 2000000) (B := 2000000) (by omega) (by omega) (by omega) (by omega)
    have m2 := mul_bd (a := az) (b := bz) (A := 2000000) (B := 2000000) (by omega) (by omega) (by omega) (by omega)
    rw [ar_mul (by omega) (by omega), ar_mul (by omega) (by omega), ar_mul (by omega) (by omega), sum3 (by omega) (by omega) (by omega)]
    rfl

theorem c29 : CT Try.prog sigs Φ 29 :=
  ct_of [] [41, 51, 53, 52] noLoop 100 mixed rfl Try.func29 (by kernel_rfl) forall_nil fun l0 hl0 hp => by
    obtain ⟨ax, l1, rfl, hl1⟩ := canon_int hl0
    obtain ⟨ay, l2, rfl, hl2⟩ := canon_int hl1
    obtain ⟨az, l3, rfl, hl3⟩ := canon_int hl2
    obtain ⟨bx, l4, rfl, hl4⟩ := canon_int hl3
    obtain ⟨by', l5, rfl, hl5⟩ := canon_int hl4
    obtain ⟨bz, l6, rfl, hl6⟩ := canon_int hl5
    cases canon_nil hl6
    clear hl6 hl5 hl4 hl3 hl2 hl1 hl0
    have hp : rCrsP ax ay az bx by' bz = true := hp
    show T.holds _ _ _ (resQ Φ fun rs => rs = [.int (rCrs0 ax ay az bx by' bz), .int (rCrs1 ax ay az bx by' bz), .int (rCrs2 ax ay az bx by' bz)])
    rw [t29]
    simp only [rCrsP, in3, Bool.and_eq_true, inC_iff] at hp
    have m0 := mul_bd (a := ay) (b := bz) (A := 1000000) (B := 1000000) (by omega) (by omega) (by omega) (by omega)
    have m1 := mul_bd (a := az) (b := by') (A := 1000000) (B := 1000000) (by omega) (by omega) (by omega) (by omega)
    have m2 := mul_bd (a := az) (b := bx) (A := 1000000) (B := 1000000) (by omega) (by omega) (by omega) (by omega)
    have m3 := mul_bd (a := ax) (b := bz) (A := 1000000) (B := 1000000) (by omega) (by omega) (by omega) (by omega)
    have m4 := mul_bd (a := ax) (b := by') (A := 1000000) (B := 1000000) (by omega) (by omega) (by omega) (by omega)
    have m5 := mul_bd (a := ay) (b := bx) (A := 1000000) (B := 1000000) (by omega) (by omega) (by omega) (by omega)
    rw [ar_mul (by omega) (by omega), ar_mul (by omega) (by omega), ar_mul (by omega) (by omega), ar_mul (by omega) (by omega), ar_mul (by omega) (by omega), ar_mul (by omega) (by omega), ar_sub (by omega) (by omega), ar_sub (by omega) (by omega), ar_sub (by omega) (by omega)]
    rfl

theorem c24 : CT Try.prog sigs Φ 24 :=
  ct_of [49, 36] [41, 51, 53, 52] noLoop 100 mixed rfl Try.func24 (by kernel_rfl) (forall_cons c49 (forall_cons c36 forall_nil)) fun l0 hl0 hp => by
    obtain ⟨ax, l1, rfl, hl1⟩ := canon_int hl0
    obtain ⟨ay, l2, rfl, hl2⟩ := canon_int hl1
    obtain ⟨az, l3, rfl, hl3⟩ := canon_int hl2
    obtain ⟨bx, l4, rfl, hl4⟩ := canon_int hl3
    obtain ⟨by', l5, rfl, hl5⟩ := canon_int hl4
    obtain ⟨bz, l6, rfl, hl6⟩ := canon_int hl5
    cases canon_nil hl6
    clear hl6 hl5 hl4 hl3 hl2 hl1 hl0
    show T.holds _ _ _ (resQ Φ fun rs => rs = [.int (dot0 ax ay az bx by' bz), .int (dot1 ax ay az bx by' bz)])
    rw [t24]
    simp only [bth0, prt0, prt1, prt2, eql_d, cond_if, decide_eq_true_eq, dot0, dot1]
    by_cases hb : (in3 ax ay az && in3 bx by' bz) = true
    · simp only [if_pos hb, if_true]
      have hc := hb
      simp only [in3, Bool.and_eq_true, inC_iff] at hc
      have m0 := mul_bd (a := ax) (b := bx) (A := 1000000) (B := 1000000) (by omega) (by omega) (by omega) (by omega)
      have m1 := mul_bd (a := ay) (b := by') (A := 1000000) (B := 1000000) (by omega) (by omega) (by omega) (by omega)
      have m2 := mul_bd (a := az) (b := bz) (A := 1000000) (B := 1000000) (by omega) (by omega) (by omega) (by omega)
      rw [ar_mul (by omega) (by omega), ar_mul (by omega) (by omega), ar_mul (by omega) (by omega), sum03 (by omega) (by omega) (by omega)]
    · simp only [if_neg hb]
      simp

theorem c25 : CT Try.prog sigs Φ 25 :=
  ct_of [49, 36] [41, 51, 53, 52] noLoop 100 mixed rfl Try.func25 (by kernel_rfl) (forall_cons c49 (forall_cons c36 forall_nil)) fun l0 hl0 hp => by
    obtain ⟨ax, l1, rfl, hl1⟩ := canon_int hl0
    obtain ⟨ay, l2, rfl, hl2⟩ := canon_int hl1
    obtain ⟨az, l3, rfl, hl3⟩ := canon_int hl2
    obtain ⟨bx, l4, rfl, hl4⟩ := canon_int hl3
    obtain ⟨by', l5, rfl, hl5⟩ := canon_int hl4
    obtain ⟨bz, l6, rfl, hl6⟩ := canon_int hl5
    cases canon_nil hl6
    clear hl6 hl5 hl4 hl3 hl2 hl1 hl0
    show T.holds _ _ _ (resQ Φ fun rs => rs = [.int (crs0 ax ay az bx by' bz), .int (crs1 ax ay az bx by' bz), .int (crs2 ax ay az bx by' bz), .int (crs3 ax ay az bx by' bz)])
    rw [t25]
    simp only [bth0, prt0, prt1, prt2, eql_d, cond_if, decide_eq_true_eq, crs0, crs1, crs2, crs3]
    by_cases hb : (in3 ax ay az && in3 bx by' bz) = true
    · simp only [if_pos hb, if_true]
      have hc := hb
      simp only [in3, Bool.and_eq_true, inC_iff] at hc
      have m0 := mul_bd (a := ay) (b := bz) (A := 1000000) (B := 1000000) (by omega) (by omega) (by omega) (by omega)
      have m1 := mul_bd (a := az) (b := by') (A := 1000000) (B := 1000000) (by omega) (by omega) (by omega) (by omega)
      have m2 := mul_bd (a := az) (b := bx) (A := 1000000) (B := 1000000) (by omega) (by omega) (by omega) (by omega)
      have m3 := mul_bd (a := ax) (b := bz) (A := 1000000) (B := 1000000) (by omega) (by omega) (by omega) (by omega)
      have m4 := mul_bd (a := ax) (b := by') (A := 1000000) (B := 1000000) (by omega) (by omega) (by omega) (by omega)
      have m5 := mul_bd (a := ay) (b := bx) (A := 1000000) (B := 1000000) (by omega) (by omega) (by omega) (by omega)
      rw [ar_mul (by omega) (by omega), ar_mul (by omega) (by omega), ar_mul (by omega) (by omega), ar_mul (by omega) (by omega), ar_mul (by omega) (by omega), ar_mul (by omega) (by omega), ar_sub (by omega) (by omega), ar_sub (by omega) (by omega), ar_sub (by omega) (by omega)]
    · simp only [if_neg hb]
      simp

theorem c26 : CT Try.prog sigs Φ 26 :=
  ct_of [49, 36] [41, 51, 53, 52] noLoop 100 mixed rfl Try.func26 (by kernel_rfl) (forall_cons c49 (forall_cons c36 forall_nil)) fun l0 hl0 hp => by
    obtain ⟨ax, l1, rfl, hl1⟩ := canon_int hl0
    obtain ⟨ay, l2, rfl, hl2⟩ := canon_int hl1
    obtain ⟨az, l3, rfl, hl3⟩ := canon_int hl2
    obtain ⟨bx, l4, rfl, hl4⟩ := canon_int hl3
    obtain ⟨by', l5, rfl, hl5⟩ := canon_int hl4
    obtain ⟨bz, l6, rfl, hl6⟩ := canon_int hl5
    cases canon_nil hl6
    clear hl6 hl5 hl4 hl3 hl2 hl1 hl0
    show T.holds _ _ _ (resQ Φ fun rs => rs = [.int (dst0 ax ay az bx by' bz), .int (dst1 ax ay az bx by' bz)])
    rw [t26]
    simp only [bth0, prt0, prt1, prt2, eql_d, cond_if, decide_eq_true_eq, dst0, dst1]
    by_cases hb : (in3 ax ay az && in3 bx by' bz) = true
    · simp only [if_pos hb, if_true]
      have hc := hb
      simp only [in3, Bool.and_eq_true, inC_iff] at hc
      rw [ar_sub (a := ax) (by omega) (by omega), ar_sub (a := ay) (by omega) (by omega), ar_sub (a := az) (by omega) (by omega)]
      have m0 := mul_bd (a := (ax - bx)) (b := (ax - bx)) (A := 2000000) (B := 2000000) (by omega) (by omega) (by omega) (by omega)
      have m1 := mul_bd (a := (ay - by')) (b := (ay - by')) (A := 2000000) (B := 2000000) (by omega) (by omega) (by omega) (by omega)
      have m2 := mul_bd (a := (az - bz)) (b := (az - bz)) (A := 2000000) (B := 2000000) (by omega) (by omega) (by omega) (by omega)
      rw [ar_mul (by omega) (by omega), ar_mul (by omega) (by omega), ar_mul (by omega) (by omega), sum03 (by omega) (by omega) (by omega)]
    · simp only [if_neg hb]
      simp

theorem c50 : CT Try.prog sigs Φ 50 :=
  ct_of [49, 36, 37, 32] [41, 51, 53, 52] noLoop 100 mixed rfl Try.func50 (by kernel_rfl) (forall_cons c49 (forall_cons c36 (forall_cons c37 (forall_cons c32 forall_nil)))) fun l0 hl0 hp => by
    obtain ⟨ax, l1, rfl, hl1⟩ := canon_int hl0
    obtain ⟨ay, l2, rfl, hl2⟩ := canon_int hl1
    obtain ⟨az, l3, rfl, hl3⟩ := canon_int hl2
    obtain ⟨bx, l4, rfl, hl4⟩ := canon_int hl3
    obtain ⟨by', l5, rfl, hl5⟩ := canon_int hl4
    obtain ⟨bz, l6, rfl, hl6⟩ := canon_int hl5
    obtain ⟨s, l7, rfl, hl7⟩ := canon_int hl6
    cases canon_nil hl7
    clear hl7 hl6 hl5 hl4 hl3 hl2 hl1 hl0
    have hp : cmbP ax ay az bx by' bz s = true := hp
    show T.holds _ _ _ (resQ Φ fun rs => rs = [.int (cmb0 ax ay az bx by' bz s), .int (cmb1 ax ay az bx by' bz s), .int (cmb2 ax ay az bx by' bz s), .int (cmb3 ax ay az bx by' bz s)])
    rw [t50]
    simp only [cmbP, decide_eq_true_eq] at hp
    simp only [bth0, eql_d, cond_if, decide_eq_true_eq, cmb0, cmb1, cmb2, cmb3]
    by_cases hb : (in3 ax ay az && in3 bx by' bz) = true
    · have hc := hb
      simp only [in3, Bool.and_eq_true, inC_iff] at hc
      have e1 : arI .add .i64 ax (arI .mul .i64 s bx) = ax + s * bx := by
        rcases hp with rfl | rfl <;> rw [ar_mul (by omega) (by omega), ar_add (by omega) (by omega)]
      have e2 : arI .add .i64 ay (arI .mul .i64 s by') = ay + s * by' := by
        rcases hp with rfl | rfl <;> rw [ar_mul (by omega) (by omega), ar_add (by omega) (by omega)]
      have e3 : arI .add .i64 az (arI .mul .i64 s bz) = az + s * bz := by
        rcases hp with rfl | rfl <;> rw [ar_mul (by omega) (by omega), ar_add (by omega) (by omega)]
      simp only [prt0, prt1, prt2, whl0, whl1, whl2, chk0, e1, e2, e3, hb, Bool.true_and, if_true]
      by_cases hv : in3 (ax + s * bx) (ay + s * by') (az + s * bz) = true
      · simp only [hv, if_true]
      · simp [hv]
    · simp [hb]

theorem c30 : CT Try.prog sigs Φ 30 :=
  ct_of [50] [41, 51, 53, 52] noLoop 100 mixed rfl Try.func30 (by kernel_rfl) (forall_cons c50 forall_nil) fun l0 hl0 hp => by
    obtain ⟨ax, l1, rfl, hl1⟩ := canon_int hl0
    obtain ⟨ay, l2, rfl, hl2⟩ := canon_int hl1
    obtain ⟨az, l3, rfl, hl3⟩ := canon_int hl2
    obtain ⟨bx, l4, rfl, hl4⟩ := canon_int hl3
    obtain ⟨by', l5, rfl, hl5⟩ := canon_int hl4
    obtain ⟨bz, l6, rfl, hl6⟩ := canon_int hl5
    cases canon_nil hl6
    clear hl6 hl5 hl4 hl3 hl2 hl1 hl0
    show T.holds _ _ _ (resQ Φ fun rs => rs = [.int (add0 ax ay az bx by' bz), .int (add1 ax ay az bx by' bz), .int (add2 ax ay az bx by' bz), .int (add3 ax ay az bx by' bz)])
    rw [t30]
    have h1 : cmbP ax ay az bx by' bz 1 = true := rfl
    rw [h1]
    show _ = _
    simp only [cmb0, cmb1, cmb2, cmb3, add0, add1, add2, add3, Int.one_mul, Int.neg_mul, ← Int.sub_eq_add_neg]

theorem c31 : CT Try.prog sigs Φ 31 :=
  ct_of [50] [41, 51, 53, 52] noLoop 100 mixed rfl Try.func31 (by kernel_rfl) (forall_cons c50 forall_nil) fun l0 hl0 hp => by
    obtain ⟨ax, l1, rfl, hl1⟩ := canon_int hl0
    obtain ⟨ay, l2, rfl, hl2⟩ := canon_int hl1
    obtain ⟨az, l3, rfl, hl3⟩ := canon_int hl2
    obtain ⟨bx, l4, rfl, hl4⟩ := canon_int hl3
    obtain ⟨by', l5, rfl, hl5⟩ := canon_int hl4
    obtain ⟨bz, l6, rfl, hl6⟩ := canon_int hl5
    cases canon_nil hl6
    clear hl6 hl5 hl4 hl3 hl2 hl1 hl0
    show T.holds _ _ _ (resQ Φ fun rs => rs = [.int (sub0 ax ay az bx by' bz), .int (sub1 ax ay az bx by' bz), .int (sub2 ax ay az bx by' bz), .int (sub3 ax ay az bx by' bz)])
    rw [t31]
    have h1 : cmbP ax ay az bx by' bz (-1) = true := rfl
    rw [h1]
    show _ = _
    simp only [cmb0, cmb1, cmb2, cmb3, sub0, sub1, sub2, sub3, Int.one_mul, Int.neg_mul, ← Int.sub_eq_add_neg]

theorem c40 : CT Try.prog sigs Φ 40 :=
  ct_of [] [41, 51, 53, 52] noLoop 100 mixed rfl Try.func40 (by kernel_rfl) forall_nil fun l0 hl0 hp => by
    obtain ⟨n, l1, rfl, hl1⟩ := canon_int hl0
    cases canon_nil hl1
    clear hl1 hl0
    have hp : ablP n = true := hp
    show T.holds _ _ _ (resQ Φ fun rs => rs = [.int (abl0 n)])
    rw [t40]
    simp only [ablP, inC_iff] at hp
    simp only [abl0, lss_d, cond_if, decide_eq_true_eq]
    rw [ar_sub (by omega) (by omega), Int.zero_sub]
    split <;> simp [*]

theorem c21 : CT Try.prog sigs Φ 21 :=
  ct_of [43, 44, 42, 45] [41, 51, 53, 52] noLoop 100 mixed rfl Try.func21 (by kernel_rfl) (forall_cons c43 (forall_cons c44 (forall_cons c42 (forall_cons c45 forall_nil)))) fun l0 hl0 hp => by
    obtain ⟨ax, l1, rfl, hl1⟩ := canon_int hl0
    obtain ⟨ay, l2, rfl, hl2⟩ := canon_int hl1
    obtain ⟨bx, l3, rfl, hl3⟩ := canon_int hl2
    obtain ⟨by', l4, rfl, hl4⟩ := canon_int hl3
    obtain ⟨cx, l5, rfl, hl5⟩ := canon_int hl4
    obtain ⟨cy, l6, rfl, hl6⟩ := canon_int hl5
    obtain ⟨dx, l7, rfl, hl7⟩ := canon_int hl6
    obtain ⟨dy, l8, rfl, hl8⟩ := canon_int hl7
    cases canon_nil hl8
    clear hl8 hl7 hl6 hl5 hl4 hl3 hl2 hl1 hl0
    show T.holds _ _ _ (resQ Φ fun rs => rs = [.int (met0 ax ay bx by' cx cy dx dy), .int (met1 ax ay bx by' cx cy dx dy)])
    rw [t21]
    simp only [near_chain, and_chain, met0, met1, in2, Bool.and_assoc]
    cases hb : (inC ax && (inC ay && (inC bx && (inC by' && (inC cx && (inC cy && (inC dx && inC dy)))))))
    · rfl
    · simp only [Bool.and_eq_true, inC_iff] at hb
      have h1 : cmnP ay by' cy dy = true := by simp only [cmnP, Bool.and_eq_true, inC_iff]; omega
      have h2 : cmnP ax bx cx dx = true := by simp only [cmnP, Bool.and_eq_true, inC_iff]; omega
      rw [h1, h2]
      simp only [meetS, one0, lss_d, eql_d, cond_if, decide_eq_true_eq, Bool.and_eq_true, if_true, Bool.not_eq_true', decide_eq_false_iff_not]
      repeat' split
      all_goals (first | rfl | (simp_all; done) | (exfalso; omega))

theorem c22 : CT Try.prog sigs Φ 22 :=
  ct_of [20, 19, 46, 47] [41, 51, 53, 52] noLoop 100 mixed rfl Try.func22 (by kernel_rfl) (forall_cons c20 (forall_cons c19 (forall_cons c46 (forall_cons c47 forall_nil)))) fun l0 hl0 hp => by
    obtain ⟨ax, l1, rfl, hl1⟩ := canon_int hl0
    obtain ⟨ay, l2, rfl, hl2⟩ := canon_int hl1
    obtain ⟨bx, l3, rfl, hl3⟩ := canon_int hl2
    obtain ⟨by', l4, rfl, hl4⟩ := canon_int hl3
    obtain ⟨cx, l5, rfl, hl5⟩ := canon_int hl4
    obtain ⟨cy, l6, rfl, hl6⟩ := canon_int hl5
    obtain ⟨dx, l7, rfl, hl7⟩ := canon_int hl6
    obtain ⟨dy, l8, rfl, hl8⟩ := canon_int hl7
    cases canon_nil hl8
    clear hl8 hl7 hl6 hl5 hl4 hl3 hl2 hl1 hl0
    show T.holds _ _ _ (resQ Φ fun rs => rs = [.int (rMet0 ax ay bx by' cx cy dx dy)])
    rw [t22]
    simp only [rMet0, rmeetS, coll, rOn0, rTn0, lss_d, eql_d, cond_if, decide_eq_true_eq, Bool.and_eq_true, if_true]
    generalize ons0 cx cy dx dy ax ay = o1
    generalize ons0 ax ay bx by' cx cy = o2
    generalize tur0 ax ay bx by' cx cy = u1
    generalize tur0 ax ay bx by' dx dy = u2
    generalize tur0 cx cy dx dy ax ay = u3
    generalize tur0 cx cy dx dy bx by' = u4
    generalize arI .mul .i64 u1 u2 = w1
    generalize arI .mul .i64 u3 u4 = w2
    by_cases h1 : ax = bx ∧ ay = by'
    · simp only [if_pos h1, h1, true_and, true_or, if_true]
      cases o1 <;> simp <;> cases o2 <;> simp
    · simp only [if_neg h1, h1, false_and, false_or, if_false]
      by_cases h2 : cx = dx ∧ cy = dy
      · simp only [if_pos h2, h2, true_and, if_true]
        cases o2 <;> simp
      · simp only [if_neg h2]
        by_cases h3 : u1 = 0
        · by_cases h4 : u2 = 0
          · simp only [h3, h4, and_self, if_true]
            generalize bef0 (srt0 ax ay bx by') (srt1 ax ay bx by') (srt0 cx cy dx dy) (srt1 cx cy dx dy) = g1
            generalize bef0 (srt2 cx cy dx dy) (srt3 cx cy dx dy) (srt2 ax ay bx by') (srt3 ax ay bx by') = g2
            cases g1 <;> cases g2 <;> simp only [if_true, if_false, Bool.false_eq_true] <;> (repeat' split) <;> first | rfl | (simp_all; done)
          · simp only [h4, and_false, if_false]
            rcases posd w1 with ⟨e1, e2⟩ | ⟨e1, e2⟩ <;> rcases posd w2 with ⟨e3, e4⟩ | ⟨e3, e4⟩ <;> simp [e1, e2, e3, e4]
        · simp only [h3, false_and, if_false]
          rcases posd w1 with ⟨e1, e2⟩ | ⟨e1, e2⟩ <;> rcases posd w2 with ⟨e3, e4⟩ | ⟨e3, e4⟩ <;> simp [e1, e2, e3, e4]

end Go.Proofs.Ytoffcodhcbgbdaa
