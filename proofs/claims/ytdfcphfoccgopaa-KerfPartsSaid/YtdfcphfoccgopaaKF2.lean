/- The kerf seat: contracts. -/
import Derived.Test.YtdfcphfoccgopaaKF1
namespace Go.Proofs.Ytdfcphfoccgopaa
open Go.Sx
set_option linter.unusedVariables false
set_option linter.unusedSimpArgs false
set_option maxRecDepth 100000

theorem lss_d (a b : Int) : cmpI .lss a b = decide (a < b) := rfl
theorem eql_d (a b : Int) : cmpI .eql a b = decide (a = b) := rfl
theorem nlt_d (a b : Int) : (!decide (a < b)) = decide (b ≤ a) := by
  by_cases h : a < b
  · rw [decide_eq_true h, decide_eq_false (by omega)]; rfl
  · rw [decide_eq_false h, decide_eq_true (by omega)]; rfl
theorem and_chain (x y : Bool) (A B : Prop) : cond x (cond y B A) A = cond (x && y) B A := by cases x <;> rfl
theorem cond_if (x : Bool) (A B : Prop) : cond x A B = if x = true then A else B := by cases x <;> rfl
theorem near_gen (x lo hi : Int) (A B : Prop) : cond (cmpI .lss x lo) A (cond (cmpI .lss hi x) A B) = cond (decide (lo ≤ x) && decide (x ≤ hi)) B A := by
  rw [lss_d, lss_d]
  by_cases h1 : x < lo
  · rw [decide_eq_true h1, decide_eq_false (p := lo ≤ x) (by omega)]; rfl
  · by_cases h2 : hi < x
    · rw [decide_eq_false h1, decide_eq_true h2, decide_eq_false (p := x ≤ hi) (by omega), Bool.and_false]; rfl
    · rw [decide_eq_false h1, decide_eq_false h2, decide_eq_true (p := x ≤ hi) (by omega), decide_eq_true (p := lo ≤ x) (by omega)]; rfl
theorem in_gen (n lo hi : Int) (Q : List Sc → Prop) : cond (cmpI .lss n lo) (Q [.bool false]) (Q [.bool (!(cmpI .lss hi n))]) = Q [.bool (decide (lo ≤ n) && decide (n ≤ hi))] := by
  rw [lss_d, lss_d, nlt_d]
  by_cases h1 : n < lo
  · rw [decide_eq_true h1, decide_eq_false (p := lo ≤ n) (by omega)]; rfl
  · rw [decide_eq_false h1, decide_eq_true (p := lo ≤ n) (by omega)]; rfl
theorem T1 {A B : Prop} (u : Int) : cond (cmpI .eql u u) A B = A := by rw [eql_d, decide_eq_true rfl]; rfl
theorem mn_bd {a b L U : Int} (h1 : L ≤ a ∧ a ≤ U) (h2 : L ≤ b ∧ b ≤ U) : L ≤ mnI a b ∧ mnI a b ≤ U := by unfold mnI; split <;> omega
theorem mx_bd {a b L U : Int} (h1 : L ≤ a ∧ a ≤ U) (h2 : L ≤ b ∧ b ≤ U) : L ≤ mxI a b ∧ mxI a b ≤ U := by unfold mxI; split <;> omega
theorem tdiv_bd {x k : Int} {B : Int} (h1 : -B ≤ x) (h2 : x ≤ B) : -B ≤ x.tdiv k ∧ x.tdiv k ≤ B := by
  have h : (x.tdiv k).natAbs ≤ x.natAbs := by rw [Int.natAbs_tdiv]; exact Nat.div_le_self _ _
  omega

theorem mixed : Try.prog.follows .mixedOrders = true := by kernel_rfl
theorem inC_iff (n : Int) : (inC n = true) = (-1000000 ≤ n ∧ n ≤ 1000000) := by simp [inC]
theorem inA_iff (n : Int) : (inA n = true) = (0 ≤ n ∧ n ≤ 2) := by simp [inA]
theorem inK_iff (n : Int) : (inK n = true) = (0 ≤ n ∧ n ≤ 1000) := by simp [inK]
theorem inL_iff (n : Int) : (inL n = true) = (1 ≤ n ∧ n ≤ 2000000) := by simp [inL]
theorem nearC (x : Int) (A B : Prop) : cond (cmpI .lss x (-1000000)) A (cond (cmpI .lss 1000000 x) A B) = cond (inC x) B A := near_gen x _ _ A B
theorem nearA (x : Int) (A B : Prop) : cond (cmpI .lss x 0) A (cond (cmpI .lss 2 x) A B) = cond (inA x) B A := near_gen x _ _ A B
theorem nearK (x : Int) (A B : Prop) : cond (cmpI .lss x 0) A (cond (cmpI .lss 1000 x) A B) = cond (inK x) B A := near_gen x _ _ A B
theorem nearL (x : Int) (A B : Prop) : cond (cmpI .lss x 1) A (cond (cmpI .lss 2000000 x) A B) = cond (inL x) B A := near_gen x _ _ A B
theorem in3_iff (x y z : Int) : (in3 x y z = true) = ((-1000000 ≤ x ∧ x ≤ 1000000) ∧ (-1000000 ≤ y ∧ y ≤ 1000000) ∧ (-1000000 ≤ z ∧ z ≤ 1000000)) := by
  simp only [in3, Bool.and_eq_true, inC_iff, and_assoc]
theorem chkB_ok {x0 y0 z0 x1 y1 z1 : Int} : chkB x0 y0 z0 x1 y1 z1 = 0 ↔ inB x0 y0 z0 x1 y1 z1 = true ∧ (x0 < x1 ∧ y0 < y1 ∧ z0 < z1) := by
  unfold chkB
  split
  · split <;> simp_all
  · simp_all
theorem f3 (a b c : Int) : firstE [a, b, c] = if a = 0 then (if b = 0 then c else b) else a := by
  simp only [firstE]
  by_cases h : a = 0
  · by_cases g : b = 0
    · by_cases k : c = 0 <;> simp [h, g, k]
    · simp [h, g]
  · simp [h]
theorem ax3 {ax : Int} (h : inA ax = true) : ax = 0 ∨ ax = 1 ∨ ax = 2 := by rw [inA_iff] at h; omega
theorem gx_bd {x y z ax : Int} (h : in3 x y z = true) : -1000000 ≤ gx x y z ax ∧ gx x y z ax ≤ 1000000 := by
  rw [in3_iff] at h
  unfold gx
  split <;> (try split) <;> omega
theorem chkC_ok {x0 y0 z0 x1 y1 z1 ax p k : Int} : chkC x0 y0 z0 x1 y1 z1 ax p k = 0 ↔ chkB x0 y0 z0 x1 y1 z1 = 0 ∧ inA ax = true ∧ inK k = true ∧ (gx x0 y0 z0 ax < p ∧ p < gx x1 y1 z1 ax - k) := by
  unfold chkC
  by_cases h : chkB x0 y0 z0 x1 y1 z1 = 0
  · by_cases a : inA ax = true
    · by_cases b : inK k = true
      · by_cases c : gx x0 y0 z0 ax < p ∧ p < gx x1 y1 z1 ax - k
        · simp [h, a, b, c]
        · simp only [h, a, b, if_true, if_neg c]
          constructor
          · intro h; omega
          · intro h; exact absurd h.2.2.2 c
      · simp [h, a, b]
    · simp [h, a]
  · simp [h]
theorem pX_gx (x y z ax : Int) : pX x ax (gx x y z ax) = x := by unfold pX gx; split <;> rfl
theorem pY_gx (x y z ax : Int) : pY y ax (gx x y z ax) = y := by
  unfold pY gx
  by_cases h : ax = 1
  · subst h; rfl
  · simp [h]
theorem pZ_gx (x y z ax : Int) : pZ z ax (gx x y z ax) = z := by
  unfold pZ gx
  by_cases h : ax = 2
  · subst h; rfl
  · simp [h]
theorem in3_put {x y z ax n : Int} (h : in3 x y z = true) (h1 : -1000000 ≤ n) (h2 : n ≤ 1000000) : in3 (pX x ax n) (pY y ax n) (pZ z ax n) = true := by
  rw [in3_iff] at h ⊢
  unfold pX pY pZ
  refine ⟨?_, ?_, ?_⟩ <;> split <;> omega
theorem mid_in {x0 y0 z0 x1 y1 z1 ax p k : Int} (h : chkC x0 y0 z0 x1 y1 z1 ax p k = 0) : inB (if 0 < k then pX x0 ax p else 0) (if 0 < k then pY y0 ax p else 0) (if 0 < k then pZ z0 ax p else 0) (if 0 < k then pX x1 ax (p + k) else 0) (if 0 < k then pY y1 ax (p + k) else 0) (if 0 < k then pZ z1 ax (p + k) else 0) = true := by
  obtain ⟨h1, h2, h3, h4⟩ := chkC_ok.1 h
  have hb := (chkB_ok.1 h1).1
  simp only [inB, Bool.and_eq_true] at hb
  have g0 := gx_bd (ax := ax) hb.1
  have g1 := gx_bd (ax := ax) hb.2
  rw [inK_iff] at h3
  by_cases hk : 0 < k
  · simp only [if_pos hk]
    unfold inB
    rw [in3_put hb.1 (by omega) (by omega), in3_put hb.2 (by omega) (by omega)]
    rfl
  · simp only [if_neg hk]
    rfl
theorem c45 : CT Try.prog sigs Φ 45 := by
  intro sg hs
  have hs' : some (⟨[], [i1], some (.int .i64), none, none⟩ : Sig) = some sg := hs
  cases hs'
  refine ⟨fun _ _ => trivial, ?_⟩
  intro l w b o cap hg hk hn hc hp
  have hlen : (l.map Sc.toInt).length = l.length := List.length_map ..
  have hp' : l.length ≤ 1000 := of_decide_eq_true hp
  have h := walk45 (l.map Sc.toInt) b o cap w (by omega) (by omega) (fun i x hx => by
    rw [List.getElem?_map] at hx
    cases hl : l[i]? with
    | none => rw [hl] at hx; cases hx
    | some s =>
      rw [hl] at hx
      cases hx
      have h1 := hc i s hl
      obtain ⟨n, rfl⟩ := hk s (List.mem_of_getElem? hl)
      exact h1)
  rw [hlen] at h
  exact h.mono fun e w' ⟨he, hw⟩ => ⟨he, hw ▸ ⟨rfl, rfl, rfl, Nat.le_refl _, fun _ _ => rfl⟩⟩
theorem c55 : CT Try.prog sigs Φ 55 := by
  intro sg hs
  have hs' : some (⟨[], [], none, some 3, none⟩ : Sig) = some sg := hs
  cases hs'
  exact ⟨fun _ _ => trivial, fun b o i w _ h0 h1 => walk55 b o i w h0 h1⟩
theorem offax {x0 y0 z0 x1 y1 z1 a0 b0 c0 a1 b1 c1 ax u v : Int} (ha : inA ax = true) :
    (decide (pX x0 ax u = pX a0 ax u) && (decide (pY y0 ax u = pY b0 ax u) && (decide (pZ z0 ax u = pZ c0 ax u) && (decide (pX x1 ax v = pX a1 ax v) && (decide (pY y1 ax v = pY b1 ax v) && decide (pZ z1 ax v = pZ c1 ax v))))))
    = decide ((ax = 0 ∨ x0 = a0 ∧ x1 = a1) ∧ (ax = 1 ∨ y0 = b0 ∧ y1 = b1) ∧ (ax = 2 ∨ z0 = c0 ∧ z1 = c1)) := by
  rcases ax3 ha with rfl | rfl | rfl
  all_goals
    apply Bool.eq_iff_iff.2
    simp [pX, pY, pZ, eql_d]
    constructor
    · intro h; simp [h]
    · intro h; simp [h]
theorem offput {x0 y0 z0 x1 y1 z1 a0 b0 c0 a1 b1 c1 ax : Int} (ha : inA ax = true) (o : (ax = 0 ∨ x0 = a0 ∧ x1 = a1) ∧ (ax = 1 ∨ y0 = b0 ∧ y1 = b1) ∧ (ax = 2 ∨ z0 = c0 ∧ z1 = c1)) :
    pX x1 ax (gx a1 b1 c1 ax) = a1 ∧ pY y1 ax (gx a1 b1 c1 ax) = b1 ∧ pZ z1 ax (gx a1 b1 c1 ax) = c1 := by
  rcases ax3 ha with rfl | rfl | rfl <;> simp [pX, pY, pZ, gx] at o ⊢ <;> simp [o]
theorem f4 (a b c d : Int) : firstE [a, b, c, d] = if a = 0 then (if b = 0 then (if c = 0 then d else c) else b) else a := by
  have e : firstE [a, b, c, d] = if a = 0 then firstE [b, c, d] else a := rfl
  rw [e, f3]
theorem gx_len {x0 y0 z0 x1 y1 z1 ax : Int} (h : chkB x0 y0 z0 x1 y1 z1 = 0) : inL (gx x1 y1 z1 ax - gx x0 y0 z0 ax) = true := by
  obtain ⟨hb, o⟩ := chkB_ok.1 h
  simp only [inB, Bool.and_eq_true] at hb
  have g0 := gx_bd (ax := ax) hb.1
  have g1 := gx_bd (ax := ax) hb.2
  rw [inL_iff]
  have : gx x0 y0 z0 ax < gx x1 y1 z1 ax := by
    unfold gx
    split
    · omega
    · split <;> omega
  omega

theorem c57 : CT Try.prog sigs Φ 57 :=
  ct_of [] [] noLoop 100 mixed rfl Try.func57 (by kernel_rfl) forall_nil fun l0 hl0 hp => by
    obtain ⟨n, l1, rfl, hl1⟩ := canon_int hl0
    cases canon_nil hl1
    clear hl1 hl0
    show T.holds _ _ _ (resQ Φ fun rs => rs = [.bool (bin0 n)])
    rw [t57]
    exact Eq.mpr (in_gen n _ _ (fun rs => rs = [Sc.bool (bin0 n)])) rfl

theorem c56 : CT Try.prog sigs Φ 56 :=
  ct_of [] [] noLoop 100 mixed rfl Try.func56 (by kernel_rfl) forall_nil fun l0 hl0 hp => by
    obtain ⟨x0, l1, rfl, hl1⟩ := canon_int hl0
    obtain ⟨y0, l2, rfl, hl2⟩ := canon_int hl1
    obtain ⟨z0, l3, rfl, hl3⟩ := canon_int hl2
    obtain ⟨x1, l4, rfl, hl4⟩ := canon_int hl3
    obtain ⟨y1, l5, rfl, hl5⟩ := canon_int hl4
    obtain ⟨z1, l6, rfl, hl6⟩ := canon_int hl5
    cases canon_nil hl6
    clear hl6 hl5 hl4 hl3 hl2 hl1 hl0
    show T.holds _ _ _ (resQ Φ fun rs => rs = [.int (sds0 x0 y0 z0 x1 y1 z1), .int (sds1 x0 y0 z0 x1 y1 z1), .int (sds2 x0 y0 z0 x1 y1 z1), .int (sds3 x0 y0 z0 x1 y1 z1), .int (sds4 x0 y0 z0 x1 y1 z1), .int (sds5 x0 y0 z0 x1 y1 z1)])
    rw [t56]
    rfl

theorem c54 : CT Try.prog sigs Φ 54 :=
  ct_of [] [] noLoop 100 mixed rfl Try.func54 (by kernel_rfl) forall_nil fun l0 hl0 hp => by
    obtain ⟨x, l1, rfl, hl1⟩ := canon_int hl0
    obtain ⟨y, l2, rfl, hl2⟩ := canon_int hl1
    obtain ⟨z, l3, rfl, hl3⟩ := canon_int hl2
    obtain ⟨ax, l4, rfl, hl4⟩ := canon_int hl3
    cases canon_nil hl4
    clear hl4 hl3 hl2 hl1 hl0
    show T.holds _ _ _ (resQ Φ fun rs => rs = [.int (rat0 x y z ax)])
    rw [t54]
    simp only [rat0, gx, eql_d, cond_if, decide_eq_true_eq]
    repeat' split
    all_goals rfl

theorem c49 : CT Try.prog sigs Φ 49 :=
  ct_of [] [] noLoop 100 mixed rfl Try.func49 (by kernel_rfl) forall_nil fun l0 hl0 hp => by
    obtain ⟨x, l1, rfl, hl1⟩ := canon_int hl0
    obtain ⟨y, l2, rfl, hl2⟩ := canon_int hl1
    obtain ⟨z, l3, rfl, hl3⟩ := canon_int hl2
    obtain ⟨ax, l4, rfl, hl4⟩ := canon_int hl3
    obtain ⟨n, l5, rfl, hl5⟩ := canon_int hl4
    cases canon_nil hl5
    clear hl5 hl4 hl3 hl2 hl1 hl0
    show T.holds _ _ _ (resQ Φ fun rs => rs = [.int (rPut0 x y z ax n), .int (rPut1 x y z ax n), .int (rPut2 x y z ax n)])
    rw [t49]
    simp only [rPut0, rPut1, rPut2, pX, pY, pZ, eql_d]
    by_cases h0 : ax = 0
    · subst h0; rfl
    · by_cases h1 : ax = 1
      · subst h1; rfl
      · by_cases h2 : ax = 2
        · subst h2; rfl
        · simp [h0, h1, h2]

theorem c41 : CT Try.prog sigs Φ 41 :=
  ct_of [] [] noLoop 100 mixed rfl Try.func41 (by kernel_rfl) forall_nil fun l0 hl0 hp => by
    obtain ⟨x, l1, rfl, hl1⟩ := canon_int hl0
    obtain ⟨y, l2, rfl, hl2⟩ := canon_int hl1
    obtain ⟨z, l3, rfl, hl3⟩ := canon_int hl2
    obtain ⟨ax, l4, rfl, hl4⟩ := canon_int hl3
    cases canon_nil hl4
    clear hl4 hl3 hl2 hl1 hl0
    show T.holds _ _ _ (resQ Φ fun rs => rs = [.int (rGet0 x y z ax)])
    rw [t41]
    simp only [rGet0, gx, eql_d, cond_if, decide_eq_true_eq]
    repeat' split
    all_goals rfl

theorem c40 : CT Try.prog sigs Φ 40 :=
  ct_of [] [] noLoop 100 mixed rfl Try.func40 (by kernel_rfl) forall_nil fun l0 hl0 hp => by
    obtain ⟨n, l1, rfl, hl1⟩ := canon_int hl0
    cases canon_nil hl1
    clear hl1 hl0
    show T.holds _ _ _ (resQ Φ fun rs => rs = [.bool (rAx0 n)])
    rw [t40]
    exact Eq.mpr (in_gen n _ _ (fun rs => rs = [Sc.bool (rAx0 n)])) rfl

theorem c39 : CT Try.prog sigs Φ 39 :=
  ct_of [] [] noLoop 100 mixed rfl Try.func39 (by kernel_rfl) forall_nil fun l0 hl0 hp => by

    cases canon_nil hl0
    clear hl0
    show T.holds _ _ _ (resQ Φ fun rs => rs = [.int bar'0, .int bar'1, .int bar'2, .int bar'3, .int bar'4, .int bar'5])
    rw [t39]
    rfl

theorem c47 : CT Try.prog sigs Φ 47 :=
  ct_of [] [] noLoop 100 mixed rfl Try.func47 (by kernel_rfl) forall_nil fun l0 hl0 hp => by
    obtain ⟨n, l1, rfl, hl1⟩ := canon_int hl0
    cases canon_nil hl1
    clear hl1 hl0
    show T.holds _ _ _ (resQ Φ fun rs => rs = [.int (axl0 n)])
    rw [t47]
    simp only [nearA, axl0]
    cases inA n <;> rfl

theorem c48 : CT Try.prog sigs Φ 48 :=
  ct_of [] [] noLoop 100 mixed rfl Try.func48 (by kernel_rfl) forall_nil fun l0 hl0 hp => by
    obtain ⟨n, l1, rfl, hl1⟩ := canon_int hl0
    cases canon_nil hl1
    clear hl1 hl0
    show T.holds _ _ _ (resQ Φ fun rs => rs = [.int (swn0 n)])
    rw [t48]
    simp only [nearK, swn0]
    cases inK n <;> rfl

theorem c50 : CT Try.prog sigs Φ 50 :=
  ct_of [] [] noLoop 100 mixed rfl Try.func50 (by kernel_rfl) forall_nil fun l0 hl0 hp => by
    obtain ⟨n, l1, rfl, hl1⟩ := canon_int hl0
    cases canon_nil hl1
    clear hl1 hl0
    show T.holds _ _ _ (resQ Φ fun rs => rs = [.int (lng0 n)])
    rw [t50]
    simp only [nearL, lng0]
    cases inL n <;> rfl

theorem c42 : CT Try.prog sigs Φ 42 :=
  ct_of [55] [] noLoop 100 mixed rfl Try.func42 (by kernel_rfl) (forall_cons c55 forall_nil) fun l0 hl0 hp => by
    obtain ⟨x0, l1, rfl, hl1⟩ := canon_int hl0
    obtain ⟨y0, l2, rfl, hl2⟩ := canon_int hl1
    obtain ⟨z0, l3, rfl, hl3⟩ := canon_int hl2
    obtain ⟨x1, l4, rfl, hl4⟩ := canon_int hl3
    obtain ⟨y1, l5, rfl, hl5⟩ := canon_int hl4
    obtain ⟨z1, l6, rfl, hl6⟩ := canon_int hl5
    obtain ⟨ax, l7, rfl, hl7⟩ := canon_int hl6
    cases canon_nil hl7
    clear hl7 hl6 hl5 hl4 hl3 hl2 hl1 hl0
    have hp : end'P x0 y0 z0 x1 y1 z1 ax = true := hp
    show T.holds _ _ _ (resQ Φ fun rs => rs = [.int (end'0 x0 y0 z0 x1 y1 z1 ax), .int (end'1 x0 y0 z0 x1 y1 z1 ax)])
    rw [t42]
    rcases ax3 hp with rfl | rfl | rfl <;> rfl

theorem c43 : CT Try.prog sigs Φ 43 :=
  ct_of [55] [] noLoop 100 mixed rfl Try.func43 (by kernel_rfl) (forall_cons c55 forall_nil) fun l0 hl0 hp => by
    obtain ⟨x0, l1, rfl, hl1⟩ := canon_int hl0
    obtain ⟨y0, l2, rfl, hl2⟩ := canon_int hl1
    obtain ⟨z0, l3, rfl, hl3⟩ := canon_int hl2
    obtain ⟨x1, l4, rfl, hl4⟩ := canon_int hl3
    obtain ⟨y1, l5, rfl, hl5⟩ := canon_int hl4
    obtain ⟨z1, l6, rfl, hl6⟩ := canon_int hl5
    obtain ⟨ax, l7, rfl, hl7⟩ := canon_int hl6
    obtain ⟨lo, l8, rfl, hl8⟩ := canon_int hl7
    obtain ⟨hi, l9, rfl, hl9⟩ := canon_int hl8
    cases canon_nil hl9
    clear hl9 hl8 hl7 hl6 hl5 hl4 hl3 hl2 hl1 hl0
    have hp : btwP x0 y0 z0 x1 y1 z1 ax lo hi = true := hp
    show T.holds _ _ _ (resQ Φ fun rs => rs = [.int (btw0 x0 y0 z0 x1 y1 z1 ax lo hi), .int (btw1 x0 y0 z0 x1 y1 z1 ax lo hi), .int (btw2 x0 y0 z0 x1 y1 z1 ax lo hi), .int (btw3 x0 y0 z0 x1 y1 z1 ax lo hi), .int (btw4 x0 y0 z0 x1 y1 z1 ax lo hi), .int (btw5 x0 y0 z0 x1 y1 z1 ax lo hi)])
    rw [t43]
    rcases ax3 hp with rfl | rfl | rfl <;> rfl

theorem c44 : CT Try.prog sigs Φ 44 :=
  ct_of [] [] noLoop 100 mixed rfl Try.func44 (by kernel_rfl) forall_nil fun l0 hl0 hp => by
    obtain ⟨x0, l1, rfl, hl1⟩ := canon_int hl0
    obtain ⟨y0, l2, rfl, hl2⟩ := canon_int hl1
    obtain ⟨z0, l3, rfl, hl3⟩ := canon_int hl2
    obtain ⟨x1, l4, rfl, hl4⟩ := canon_int hl3
    obtain ⟨y1, l5, rfl, hl5⟩ := canon_int hl4
    obtain ⟨z1, l6, rfl, hl6⟩ := canon_int hl5
    cases canon_nil hl6
    clear hl6 hl5 hl4 hl3 hl2 hl1 hl0
    have hp : volP x0 y0 z0 x1 y1 z1 = true := hp
    show T.holds _ _ _ (resQ Φ fun rs => rs = [.int (vol0 x0 y0 z0 x1 y1 z1)])
    rw [t44]
    simp only [volP, inB, Bool.and_eq_true, in3_iff] at hp
    have m1 := mul_bd (a := x1 - x0) (b := y1 - y0) (A := 2000000) (B := 2000000) (by omega) (by omega) (by omega) (by omega)
    have m2 := mul_bd (a := (x1 - x0) * (y1 - y0)) (b := z1 - z0) (A := 4000000000000) (B := 2000000) (by omega) (by omega) (by omega) (by omega)
    rw [ar_sub (a := x1) (by omega) (by omega), ar_sub (a := y1) (by omega) (by omega), ar_sub (a := z1) (by omega) (by omega), ar_mul (a := x1 - x0) (by omega) (by omega), ar_mul (by omega) (by omega)]
    rfl

theorem c46 : CT Try.prog sigs Φ 46 :=
  ct_of [56, 57] [] noLoop 100 mixed rfl Try.func46 (by kernel_rfl) (forall_cons c56 (forall_cons c57 forall_nil)) fun l0 hl0 hp => by
    obtain ⟨x0, l1, rfl, hl1⟩ := canon_int hl0
    obtain ⟨y0, l2, rfl, hl2⟩ := canon_int hl1
    obtain ⟨z0, l3, rfl, hl3⟩ := canon_int hl2
    obtain ⟨x1, l4, rfl, hl4⟩ := canon_int hl3
    obtain ⟨y1, l5, rfl, hl5⟩ := canon_int hl4
    obtain ⟨z1, l6, rfl, hl6⟩ := canon_int hl5
    cases canon_nil hl6
    clear hl6 hl5 hl4 hl3 hl2 hl1 hl0
    show T.holds _ _ _ (resQ Φ fun rs => rs = [.int (bck0 x0 y0 z0 x1 y1 z1)])
    rw [t46]
    simp only [bin0, sds0, sds1, sds2, sds3, sds4, sds5, and_chain]
    have hO : (cmpI .lss x0 x1 && (cmpI .lss y0 y1 && cmpI .lss z0 z1)) = decide (x0 < x1 ∧ y0 < y1 ∧ z0 < z1) := by simp only [lss_d, Bool.decide_and]
    have hX : (inC x0 && (inC x1 && (inC y0 && (inC y1 && (inC z0 && inC z1))))) = inB x0 y0 z0 x1 y1 z1 := by simp only [inB, in3]; ac_rfl
    rw [hO, hX]
    unfold bck0 chkB
    cases inB x0 y0 z0 x1 y1 z1
    · rfl
    · by_cases o : x0 < x1 ∧ y0 < y1 ∧ z0 < z1
      · rw [decide_eq_true o, if_pos o]; rfl
      · rw [decide_eq_false o, if_neg o]; rfl

theorem c35 : CT Try.prog sigs Φ 35 :=
  ct_of [54] [] noLoop 100 mixed rfl Try.func35 (by kernel_rfl) (forall_cons c54 forall_nil) fun l0 hl0 hp => by
    obtain ⟨x0, l1, rfl, hl1⟩ := canon_int hl0
    obtain ⟨y0, l2, rfl, hl2⟩ := canon_int hl1
    obtain ⟨z0, l3, rfl, hl3⟩ := canon_int hl2
    obtain ⟨x1, l4, rfl, hl4⟩ := canon_int hl3
    obtain ⟨y1, l5, rfl, hl5⟩ := canon_int hl4
    obtain ⟨z1, l6, rfl, hl6⟩ := canon_int hl5
    cases canon_nil hl6
    clear hl6 hl5 hl4 hl3 hl2 hl1 hl0
    show T.holds _ _ _ (resQ Φ fun rs => rs = [.int (rBck0 x0 y0 z0 x1 y1 z1)])
    rw [t35]
    have r0 : ∀ x y z, rat0 x y z 0 = x := fun _ _ _ => rfl
    have r1 : ∀ x y z, rat0 x y z 1 = y := fun _ _ _ => rfl
    have r2 : ∀ x y z, rat0 x y z 2 = z := fun _ _ _ => rfl
    simp only [r0, r1, r2, nearC, and_chain]
    have hO : (cmpI .lss x0 x1 && (cmpI .lss y0 y1 && cmpI .lss z0 z1)) = decide (x0 < x1 ∧ y0 < y1 ∧ z0 < z1) := by simp only [lss_d, Bool.decide_and]
    have hX : (inC x0 && (inC x1 && (inC y0 && (inC y1 && (inC z0 && inC z1))))) = inB x0 y0 z0 x1 y1 z1 := by simp only [inB, in3]; ac_rfl
    rw [hO, hX]
    unfold rBck0 chkB
    cases inB x0 y0 z0 x1 y1 z1
    · rfl
    · by_cases o : x0 < x1 ∧ y0 < y1 ∧ z0 < z1
      · rw [decide_eq_true o, if_pos o]; rfl
      · rw [decide_eq_false o, if_neg o]; rfl

theorem c24 : CT Try.prog sigs Φ 24 :=
  ct_of [] [] noLoop 100 mixed rfl Try.func24 (by kernel_rfl) forall_nil fun l0 hl0 hp => by
    obtain ⟨n, l1, rfl, hl1⟩ := canon_int hl0
    cases canon_nil hl1
    clear hl1 hl0
    show T.holds _ _ _ (resQ Φ fun rs => rs = [.bool (rLen0 n)])
    rw [t24]
    exact Eq.mpr (in_gen n _ _ (fun rs => rs = [Sc.bool (rLen0 n)])) rfl

theorem c25 : CT Try.prog sigs Φ 25 :=
  ct_of [] [] noLoop 100 mixed rfl Try.func25 (by kernel_rfl) forall_nil fun l0 hl0 hp => by
    obtain ⟨n, l1, rfl, hl1⟩ := canon_int hl0
    cases canon_nil hl1
    clear hl1 hl0
    show T.holds _ _ _ (resQ Φ fun rs => rs = [.bool (rKrf0 n)])
    rw [t25]
    exact Eq.mpr (in_gen n _ _ (fun rs => rs = [Sc.bool (rKrf0 n)])) rfl

theorem c26 : CT Try.prog sigs Φ 26 :=
  ct_of [] [] noLoop 100 mixed rfl Try.func26 (by kernel_rfl) forall_nil fun l0 hl0 hp => by
    obtain ⟨l, l1, rfl, hl1⟩ := canon_int hl0
    obtain ⟨t, l2, rfl, hl2⟩ := canon_int hl1
    obtain ⟨k, l3, rfl, hl3⟩ := canon_int hl2
    cases canon_nil hl3
    clear hl3 hl2 hl1 hl0
    have hp : rMstP l t k = true := hp
    show T.holds _ _ _ (resQ Φ fun rs => rs = [.int (rMst0 l t k)])
    rw [t26]
    simp only [rMstP, Bool.and_eq_true, inL_iff, inK_iff] at hp
    have e : (l + k).tdiv (t + k) = (l + k) / (t + k) := Int.tdiv_eq_ediv_of_nonneg (by omega)
    have q := tdiv_bd (x := l + k) (k := t + k) (B := 3000000) (by omega) (by omega)
    have n0 : ¬ t + k = 0 := by omega
    rw [ar_add (a := l) (by omega) (by omega), ar_add (a := t) (by omega) (by omega), ar_quo (by omega) (by omega), e]
    simp [rMst0, eql_d, n0]

theorem c27 : CT Try.prog sigs Φ 27 :=
  ct_of [] [] noLoop 100 mixed rfl Try.func27 (by kernel_rfl) forall_nil fun l0 hl0 hp => by
    obtain ⟨l, l1, rfl, hl1⟩ := canon_int hl0
    obtain ⟨s, l2, rfl, hl2⟩ := canon_int hl1
    obtain ⟨k, l3, rfl, hl3⟩ := canon_int hl2
    cases canon_nil hl3
    clear hl3 hl2 hl1 hl0
    have hp : rThkP l s k = true := hp
    show T.holds _ _ _ (resQ Φ fun rs => rs = [.int (rThk0 l s k)])
    rw [t27]
    simp only [rThkP, Bool.and_eq_true, inL_iff, inK_iff, decide_eq_true_eq] at hp
    have m := mul_bd (a := s - 1) (b := k) (A := 1000) (B := 1000) (by omega) (by omega) (by omega) (by omega)
    have q := tdiv_bd (x := l - (s - 1) * k) (k := s) (B := 10000000) (by omega) (by omega)
    have n0 : ¬ s = 0 := by omega
    rw [ar_sub (a := s) (by omega) (by omega), ar_mul (a := s - 1) (by omega) (by omega), ar_sub (a := l) (by omega) (by omega)]
    by_cases h : l - (s - 1) * k < 0
    · simp [rThk0, eql_d, lss_d, n0, h]
    · have e : (l - (s - 1) * k).tdiv s = (l - (s - 1) * k) / s := Int.tdiv_eq_ediv_of_nonneg (by omega)
      rw [ar_quo (by omega) (by omega), e]
      simp [rThk0, eql_d, lss_d, n0, h]

theorem c13 : CT Try.prog sigs Φ 13 :=
  ct_of [35, 40, 25, 41] [] noLoop 100 mixed rfl Try.func13 (by kernel_rfl) (forall_cons c35 (forall_cons c40 (forall_cons c25 (forall_cons c41 forall_nil)))) fun l0 hl0 hp => by
    obtain ⟨x0, l1, rfl, hl1⟩ := canon_int hl0
    obtain ⟨y0, l2, rfl, hl2⟩ := canon_int hl1
    obtain ⟨z0, l3, rfl, hl3⟩ := canon_int hl2
    obtain ⟨x1, l4, rfl, hl4⟩ := canon_int hl3
    obtain ⟨y1, l5, rfl, hl5⟩ := canon_int hl4
    obtain ⟨z1, l6, rfl, hl6⟩ := canon_int hl5
    obtain ⟨ax, l7, rfl, hl7⟩ := canon_int hl6
    obtain ⟨p, l8, rfl, hl8⟩ := canon_int hl7
    obtain ⟨k, l9, rfl, hl9⟩ := canon_int hl8
    cases canon_nil hl9
    clear hl9 hl8 hl7 hl6 hl5 hl4 hl3 hl2 hl1 hl0
    show T.holds _ _ _ (resQ Φ fun rs => rs = [.int (rChk0 x0 y0 z0 x1 y1 z1 ax p k)])
    rw [t13]
    simp only [rBck0, rAx0, rKrf0, rGet0, rChk0, eql_d, lss_d, chkC]
    by_cases h : chkB x0 y0 z0 x1 y1 z1 = 0
    · have hb := (chkB_ok.1 h).1
      simp only [inB, Bool.and_eq_true] at hb
      have g1 := gx_bd (ax := ax) hb.2
      by_cases ha : inA ax = true
      · by_cases hk : inK k = true
        · have hk' := hk
          simp only [inK_iff] at hk'
          rw [ar_sub (by omega) (by omega)]
          by_cases u : gx x0 y0 z0 ax < p <;> by_cases v : p < gx x1 y1 z1 ax - k <;> simp [h, ha, hk, u, v]
        · simp [h, ha, hk]
      · simp [h, ha]
    · simp [h]

theorem c17 : CT Try.prog sigs Φ 17 :=
  ct_of [46, 47, 48, 45, 42] [] noLoop 100 mixed rfl Try.func17 (by kernel_rfl) (forall_cons c46 (forall_cons c47 (forall_cons c48 (forall_cons c45 (forall_cons c42 forall_nil))))) fun l0 hl0 hp => by
    obtain ⟨x0, l1, rfl, hl1⟩ := canon_int hl0
    obtain ⟨y0, l2, rfl, hl2⟩ := canon_int hl1
    obtain ⟨z0, l3, rfl, hl3⟩ := canon_int hl2
    obtain ⟨x1, l4, rfl, hl4⟩ := canon_int hl3
    obtain ⟨y1, l5, rfl, hl5⟩ := canon_int hl4
    obtain ⟨z1, l6, rfl, hl6⟩ := canon_int hl5
    obtain ⟨ax, l7, rfl, hl7⟩ := canon_int hl6
    obtain ⟨p, l8, rfl, hl8⟩ := canon_int hl7
    obtain ⟨k, l9, rfl, hl9⟩ := canon_int hl8
    cases canon_nil hl9
    clear hl9 hl8 hl7 hl6 hl5 hl4 hl3 hl2 hl1 hl0
    show T.holds _ _ _ (resQ Φ fun rs => rs = [.int (chk0 x0 y0 z0 x1 y1 z1 ax p k)])
    rw [t17]
    simp only [fst0, f3, bck0, axl0, swn0, end'P, end'0, end'1, chk0, eql_d, lss_d, chkC]
    by_cases h : chkB x0 y0 z0 x1 y1 z1 = 0
    · have hb := (chkB_ok.1 h).1
      simp only [inB, Bool.and_eq_true] at hb
      have g1 := gx_bd (ax := ax) hb.2
      by_cases ha : inA ax = true
      · by_cases hk : inK k = true
        · have hk' := hk
          simp only [inK_iff] at hk'
          rw [ar_sub (by omega) (by omega)]
          by_cases u : gx x0 y0 z0 ax < p <;> by_cases v : p < gx x1 y1 z1 ax - k <;> simp [h, ha, hk, u, v]
        · simp [h, ha, hk]
      · simp [h, ha]
    · simp [h]

theorem c14 : CT Try.prog sigs Φ 14 :=
  ct_of [17, 42, 43] [] noLoop 100 mixed rfl Try.func14 (by kernel_rfl) (forall_cons c17 (forall_cons c42 (forall_cons c43 forall_nil))) fun l0 hl0 hp => by
    obtain ⟨x0, l1, rfl, hl1⟩ := canon_int hl0
    obtain ⟨y0, l2, rfl, hl2⟩ := canon_int hl1
    obtain ⟨z0, l3, rfl, hl3⟩ := canon_int hl2
    obtain ⟨x1, l4, rfl, hl4⟩ := canon_int hl3
    obtain ⟨y1, l5, rfl, hl5⟩ := canon_int hl4
    obtain ⟨z1, l6, rfl, hl6⟩ := canon_int hl5
    obtain ⟨ax, l7, rfl, hl7⟩ := canon_int hl6
    obtain ⟨p, l8, rfl, hl8⟩ := canon_int hl7
    obtain ⟨k, l9, rfl, hl9⟩ := canon_int hl8
    cases canon_nil hl9
    clear hl9 hl8 hl7 hl6 hl5 hl4 hl3 hl2 hl1 hl0
    show T.holds _ _ _ (resQ Φ fun rs => rs = [.int (spl0 x0 y0 z0 x1 y1 z1 ax p k), .int (spl1 x0 y0 z0 x1 y1 z1 ax p k), .int (spl2 x0 y0 z0 x1 y1 z1 ax p k), .int (spl3 x0 y0 z0 x1 y1 z1 ax p k), .int (spl4 x0 y0 z0 x1 y1 z1 ax p k), .int (spl5 x0 y0 z0 x1 y1 z1 ax p k), .int (spl6 x0 y0 z0 x1 y1 z1 ax p k), .int (spl7 x0 y0 z0 x1 y1 z1 ax p k), .int (spl8 x0 y0 z0 x1 y1 z1 ax p k), .int (spl9 x0 y0 z0 x1 y1 z1 ax p k), .int (spl10 x0 y0 z0 x1 y1 z1 ax p k), .int (spl11 x0 y0 z0 x1 y1 z1 ax p k), .int (spl12 x0 y0 z0 x1 y1 z1 ax p k), .int (spl13 x0 y0 z0 x1 y1 z1 ax p k), .int (spl14 x0 y0 z0 x1 y1 z1 ax p k), .int (spl15 x0 y0 z0 x1 y1 z1 ax p k), .int (spl16 x0 y0 z0 x1 y1 z1 ax p k), .int (spl17 x0 y0 z0 x1 y1 z1 ax p k), .int (spl18 x0 y0 z0 x1 y1 z1 ax p k)])
    rw [t14]
    simp only [chk0, end'P, btwP, end'0, end'1, btw0, btw1, btw2, btw3, btw4, btw5, spl0, spl1, spl2, spl3, spl4, spl5, spl6, spl7, spl8, spl9, spl10, spl11, spl12, spl13, spl14, spl15, spl16, spl17, spl18, eql_d, lss_d]
    by_cases h : chkC x0 y0 z0 x1 y1 z1 ax p k = 0
    · obtain ⟨h1, h2, h3, h4⟩ := chkC_ok.1 h
      have hb := (chkB_ok.1 h1).1
      simp only [inB, Bool.and_eq_true] at hb
      have g0 := gx_bd (ax := ax) hb.1
      have g1 := gx_bd (ax := ax) hb.2
      rw [inK_iff] at h3
      rw [ar_add (a := p) (by omega) (by omega)]
      by_cases hk : 0 < k <;> simp [h, h2, hk, pX_gx, pY_gx, pZ_gx]
    · simp [h]

theorem c16 : CT Try.prog sigs Φ 16 :=
  ct_of [14, 44] [] noLoop 100 mixed rfl Try.func16 (by kernel_rfl) (forall_cons c14 (forall_cons c44 forall_nil)) fun l0 hl0 hp => by
    obtain ⟨x0, l1, rfl, hl1⟩ := canon_int hl0
    obtain ⟨y0, l2, rfl, hl2⟩ := canon_int hl1
    obtain ⟨z0, l3, rfl, hl3⟩ := canon_int hl2
    obtain ⟨x1, l4, rfl, hl4⟩ := canon_int hl3
    obtain ⟨y1, l5, rfl, hl5⟩ := canon_int hl4
    obtain ⟨z1, l6, rfl, hl6⟩ := canon_int hl5
    obtain ⟨ax, l7, rfl, hl7⟩ := canon_int hl6
    obtain ⟨p, l8, rfl, hl8⟩ := canon_int hl7
    obtain ⟨k, l9, rfl, hl9⟩ := canon_int hl8
    cases canon_nil hl9
    clear hl9 hl8 hl7 hl6 hl5 hl4 hl3 hl2 hl1 hl0
    show T.holds _ _ _ (resQ Φ fun rs => rs = [.int (los0 x0 y0 z0 x1 y1 z1 ax p k), .int (los1 x0 y0 z0 x1 y1 z1 ax p k)])
    rw [t16]
    simp only [spl0, spl1, spl2, spl3, spl4, spl5, spl6, spl7, spl8, spl9, spl10, spl11, spl12, spl13, spl14, spl15, spl16, spl17, spl18, los0, los1, vol0, volP, eql_d]
    by_cases h : chkC x0 y0 z0 x1 y1 z1 ax p k = 0
    · have hm := mid_in h
      simp only [h, if_true, decide_true, cond_true]
      simp [hm]
    · simp [h]

theorem c15 : CT Try.prog sigs Φ 15 :=
  ct_of [] [] noLoop 100 mixed rfl Try.func15 (by kernel_rfl) forall_nil fun l0 hl0 hp => by
    obtain ⟨ax, l1, rfl, hl1⟩ := canon_int hl0
    obtain ⟨p, l2, rfl, hl2⟩ := canon_int hl1
    obtain ⟨k, l3, rfl, hl3⟩ := canon_int hl2
    cases canon_nil hl3
    clear hl3 hl2 hl1 hl0
    show T.holds _ _ _ (resQ Φ fun rs => rs = [.int (our0 ax p k), .int (our1 ax p k), .int (our2 ax p k)])
    rw [t15]
    rfl

theorem c18 : CT Try.prog sigs Φ 18 :=
  ct_of [49] [] noLoop 100 mixed rfl Try.func18 (by kernel_rfl) (forall_cons c49 forall_nil) fun l0 hl0 hp => by
    obtain ⟨x0, l1, rfl, hl1⟩ := canon_int hl0
    obtain ⟨y0, l2, rfl, hl2⟩ := canon_int hl1
    obtain ⟨z0, l3, rfl, hl3⟩ := canon_int hl2
    obtain ⟨x1, l4, rfl, hl4⟩ := canon_int hl3
    obtain ⟨y1, l5, rfl, hl5⟩ := canon_int hl4
    obtain ⟨z1, l6, rfl, hl6⟩ := canon_int hl5
    obtain ⟨ax, l7, rfl, hl7⟩ := canon_int hl6
    obtain ⟨p, l8, rfl, hl8⟩ := canon_int hl7
    obtain ⟨k, l9, rfl, hl9⟩ := canon_int hl8
    cases canon_nil hl9
    clear hl9 hl8 hl7 hl6 hl5 hl4 hl3 hl2 hl1 hl0
    have hp : rSplP x0 y0 z0 x1 y1 z1 ax p k = true := hp
    show T.holds _ _ _ (resQ Φ fun rs => rs = [.int (rSpl0 x0 y0 z0 x1 y1 z1 ax p k), .int (rSpl1 x0 y0 z0 x1 y1 z1 ax p k), .int (rSpl2 x0 y0 z0 x1 y1 z1 ax p k), .int (rSpl3 x0 y0 z0 x1 y1 z1 ax p k), .int (rSpl4 x0 y0 z0 x1 y1 z1 ax p k), .int (rSpl5 x0 y0 z0 x1 y1 z1 ax p k), .int (rSpl6 x0 y0 z0 x1 y1 z1 ax p k), .int (rSpl7 x0 y0 z0 x1 y1 z1 ax p k), .int (rSpl8 x0 y0 z0 x1 y1 z1 ax p k), .int (rSpl9 x0 y0 z0 x1 y1 z1 ax p k), .int (rSpl10 x0 y0 z0 x1 y1 z1 ax p k), .int (rSpl11 x0 y0 z0 x1 y1 z1 ax p k), .int (rSpl12 x0 y0 z0 x1 y1 z1 ax p k), .int (rSpl13 x0 y0 z0 x1 y1 z1 ax p k), .int (rSpl14 x0 y0 z0 x1 y1 z1 ax p k), .int (rSpl15 x0 y0 z0 x1 y1 z1 ax p k), .int (rSpl16 x0 y0 z0 x1 y1 z1 ax p k), .int (rSpl17 x0 y0 z0 x1 y1 z1 ax p k)])
    rw [t18]
    have h : chkC x0 y0 z0 x1 y1 z1 ax p k = 0 := of_decide_eq_true hp
    obtain ⟨h1, h2, h3, h4⟩ := chkC_ok.1 h
    have hb := (chkB_ok.1 h1).1
    simp only [inB, Bool.and_eq_true] at hb
    have g0 := gx_bd (ax := ax) hb.1
    have g1 := gx_bd (ax := ax) hb.2
    rw [inK_iff] at h3
    simp only [rPut0, rPut1, rPut2, rSpl0, rSpl1, rSpl2, rSpl3, rSpl4, rSpl5, rSpl6, rSpl7, rSpl8, rSpl9, rSpl10, rSpl11, rSpl12, rSpl13, rSpl14, rSpl15, rSpl16, rSpl17, eql_d]
    rw [ar_add (a := p) (by omega) (by omega)]
    by_cases hk : k = 0
    · have hn : ¬ 0 < k := by omega
      subst hk
      simp
    · have hn : 0 < k := by omega
      simp [hk, hn]

theorem c19 : CT Try.prog sigs Φ 19 :=
  ct_of [] [] noLoop 100 mixed rfl Try.func19 (by kernel_rfl) forall_nil fun l0 hl0 hp => by
    obtain ⟨x0, l1, rfl, hl1⟩ := canon_int hl0
    obtain ⟨y0, l2, rfl, hl2⟩ := canon_int hl1
    obtain ⟨z0, l3, rfl, hl3⟩ := canon_int hl2
    obtain ⟨x1, l4, rfl, hl4⟩ := canon_int hl3
    obtain ⟨y1, l5, rfl, hl5⟩ := canon_int hl4
    obtain ⟨z1, l6, rfl, hl6⟩ := canon_int hl5
    cases canon_nil hl6
    clear hl6 hl5 hl4 hl3 hl2 hl1 hl0
    have hp : rVolP x0 y0 z0 x1 y1 z1 = true := hp
    show T.holds _ _ _ (resQ Φ fun rs => rs = [.int (rVol0 x0 y0 z0 x1 y1 z1)])
    rw [t19]
    simp only [rVolP, inB, Bool.and_eq_true, in3_iff] at hp
    have m1 := mul_bd (a := x1 - x0) (b := y1 - y0) (A := 2000000) (B := 2000000) (by omega) (by omega) (by omega) (by omega)
    have m2 := mul_bd (a := (x1 - x0) * (y1 - y0)) (b := z1 - z0) (A := 4000000000000) (B := 2000000) (by omega) (by omega) (by omega) (by omega)
    rw [ar_sub (a := x1) (by omega) (by omega), ar_sub (a := y1) (by omega) (by omega), ar_sub (a := z1) (by omega) (by omega), ar_mul (a := x1 - x0) (by omega) (by omega), ar_mul (by omega) (by omega)]
    rfl

theorem c38 : CT Try.prog sigs Φ 38 :=
  ct_of [] [] noLoop 100 mixed rfl Try.func38 (by kernel_rfl) forall_nil fun l0 hl0 hp => by
    obtain ⟨x0, l1, rfl, hl1⟩ := canon_int hl0
    obtain ⟨y0, l2, rfl, hl2⟩ := canon_int hl1
    obtain ⟨z0, l3, rfl, hl3⟩ := canon_int hl2
    obtain ⟨x1, l4, rfl, hl4⟩ := canon_int hl3
    obtain ⟨y1, l5, rfl, hl5⟩ := canon_int hl4
    obtain ⟨z1, l6, rfl, hl6⟩ := canon_int hl5
    cases canon_nil hl6
    clear hl6 hl5 hl4 hl3 hl2 hl1 hl0
    have hp : lvolP x0 y0 z0 x1 y1 z1 = true := hp
    show T.holds _ _ _ (resQ Φ fun rs => rs = [.int (lvol0 x0 y0 z0 x1 y1 z1)])
    rw [t38]
    simp only [lvolP, inB, Bool.and_eq_true, in3_iff] at hp
    have m1 := mul_bd (a := x1 - x0) (b := y1 - y0) (A := 2000000) (B := 2000000) (by omega) (by omega) (by omega) (by omega)
    have m2 := mul_bd (a := (x1 - x0) * (y1 - y0)) (b := z1 - z0) (A := 4000000000000) (B := 2000000) (by omega) (by omega) (by omega) (by omega)
    rw [ar_sub (a := x1) (by omega) (by omega), ar_sub (a := y1) (by omega) (by omega), ar_sub (a := z1) (by omega) (by omega), ar_mul (a := x1 - x0) (by omega) (by omega), ar_mul (by omega) (by omega)]
    rfl

theorem c20 : CT Try.prog sigs Φ 20 :=
  ct_of [46, 47, 45, 42, 43] [] noLoop 100 mixed rfl Try.func20 (by kernel_rfl) (forall_cons c46 (forall_cons c47 (forall_cons c45 (forall_cons c42 (forall_cons c43 forall_nil))))) fun l0 hl0 hp => by
    obtain ⟨x0, l1, rfl, hl1⟩ := canon_int hl0
    obtain ⟨y0, l2, rfl, hl2⟩ := canon_int hl1
    obtain ⟨z0, l3, rfl, hl3⟩ := canon_int hl2
    obtain ⟨x1, l4, rfl, hl4⟩ := canon_int hl3
    obtain ⟨y1, l5, rfl, hl5⟩ := canon_int hl4
    obtain ⟨z1, l6, rfl, hl6⟩ := canon_int hl5
    obtain ⟨a0, l7, rfl, hl7⟩ := canon_int hl6
    obtain ⟨b0, l8, rfl, hl8⟩ := canon_int hl7
    obtain ⟨c0, l9, rfl, hl9⟩ := canon_int hl8
    obtain ⟨a1, l10, rfl, hl10⟩ := canon_int hl9
    obtain ⟨b1, l11, rfl, hl11⟩ := canon_int hl10
    obtain ⟨c1, l12, rfl, hl12⟩ := canon_int hl11
    obtain ⟨ax, l13, rfl, hl13⟩ := canon_int hl12
    cases canon_nil hl13
    clear hl13 hl12 hl11 hl10 hl9 hl8 hl7 hl6 hl5 hl4 hl3 hl2 hl1 hl0
    show T.holds _ _ _ (resQ Φ fun rs => rs = [.int (joi0 x0 y0 z0 x1 y1 z1 a0 b0 c0 a1 b1 c1 ax), .int (joi1 x0 y0 z0 x1 y1 z1 a0 b0 c0 a1 b1 c1 ax), .int (joi2 x0 y0 z0 x1 y1 z1 a0 b0 c0 a1 b1 c1 ax), .int (joi3 x0 y0 z0 x1 y1 z1 a0 b0 c0 a1 b1 c1 ax), .int (joi4 x0 y0 z0 x1 y1 z1 a0 b0 c0 a1 b1 c1 ax), .int (joi5 x0 y0 z0 x1 y1 z1 a0 b0 c0 a1 b1 c1 ax), .int (joi6 x0 y0 z0 x1 y1 z1 a0 b0 c0 a1 b1 c1 ax), .int (joi7 x0 y0 z0 x1 y1 z1 a0 b0 c0 a1 b1 c1 ax), .int (joi8 x0 y0 z0 x1 y1 z1 a0 b0 c0 a1 b1 c1 ax), .int (joi9 x0 y0 z0 x1 y1 z1 a0 b0 c0 a1 b1 c1 ax)])
    rw [t20]
    simp only [fst0, f3, bck0, axl0, end'P, end'0, end'1, btwP, btw0, btw1, btw2, btw3, btw4, btw5, joi0, joi1, joi2, joi3, joi4, joi5, joi6, joi7, joi8, joi9, eql_d, lss_d, joiE]
    by_cases h : chkB x0 y0 z0 x1 y1 z1 = 0
    · by_cases h' : chkB a0 b0 c0 a1 b1 c1 = 0
      · by_cases ha : inA ax = true
        · have hb := (chkB_ok.1 h).1
          have hb' := (chkB_ok.1 h').1
          simp only [inB, Bool.and_eq_true] at hb hb'
          have g1 := gx_bd (ax := ax) hb.2
          have g2 := gx_bd (ax := ax) hb'.1
          rw [offax ha]
          simp only [h, h', ha, if_true, decide_true, cond_true]
          rw [ar_sub (a := gx a0 b0 c0 ax) (by omega) (by omega)]
          generalize hG : gx x1 y1 z1 ax = G at *
          generalize hF : gx a0 b0 c0 ax = F at *
          by_cases o : (ax = 0 ∨ x0 = a0 ∧ x1 = a1) ∧ (ax = 1 ∨ y0 = b0 ∧ y1 = b1) ∧ (ax = 2 ∨ z0 = c0 ∧ z1 = c1)
          · by_cases u : F < G
            · have n1 : ¬ G ≤ F := by omega
              simp [o, u, n1]
            · have n1 : G ≤ F := by omega
              by_cases v : 1000 < F - G
              · have n2 : ¬ F - G ≤ 1000 := by omega
                simp [o, u, n1, v, n2]
              · have n2 : F - G ≤ 1000 := by omega
                have q := offput ha o
                simp [o, u, n1, v, n2, q, pX_gx, pY_gx, pZ_gx]
          · by_cases u : F < G <;> by_cases v : 1000 < F - G <;> simp [o, u, v]
        · simp [h, h', ha]
      · simp [h, h']
    · simp [h]

theorem c21 : CT Try.prog sigs Φ 21 :=
  ct_of [35, 40, 41, 49] [] noLoop 100 mixed rfl Try.func21 (by kernel_rfl) (forall_cons c35 (forall_cons c40 (forall_cons c41 (forall_cons c49 forall_nil)))) fun l0 hl0 hp => by
    obtain ⟨x0, l1, rfl, hl1⟩ := canon_int hl0
    obtain ⟨y0, l2, rfl, hl2⟩ := canon_int hl1
    obtain ⟨z0, l3, rfl, hl3⟩ := canon_int hl2
    obtain ⟨x1, l4, rfl, hl4⟩ := canon_int hl3
    obtain ⟨y1, l5, rfl, hl5⟩ := canon_int hl4
    obtain ⟨z1, l6, rfl, hl6⟩ := canon_int hl5
    obtain ⟨a0, l7, rfl, hl7⟩ := canon_int hl6
    obtain ⟨b0, l8, rfl, hl8⟩ := canon_int hl7
    obtain ⟨c0, l9, rfl, hl9⟩ := canon_int hl8
    obtain ⟨a1, l10, rfl, hl10⟩ := canon_int hl9
    obtain ⟨b1, l11, rfl, hl11⟩ := canon_int hl10
    obtain ⟨c1, l12, rfl, hl12⟩ := canon_int hl11
    obtain ⟨ax, l13, rfl, hl13⟩ := canon_int hl12
    cases canon_nil hl13
    clear hl13 hl12 hl11 hl10 hl9 hl8 hl7 hl6 hl5 hl4 hl3 hl2 hl1 hl0
    show T.holds _ _ _ (resQ Φ fun rs => rs = [.int (rJoi0 x0 y0 z0 x1 y1 z1 a0 b0 c0 a1 b1 c1 ax), .int (rJoi1 x0 y0 z0 x1 y1 z1 a0 b0 c0 a1 b1 c1 ax), .int (rJoi2 x0 y0 z0 x1 y1 z1 a0 b0 c0 a1 b1 c1 ax), .int (rJoi3 x0 y0 z0 x1 y1 z1 a0 b0 c0 a1 b1 c1 ax), .int (rJoi4 x0 y0 z0 x1 y1 z1 a0 b0 c0 a1 b1 c1 ax), .int (rJoi5 x0 y0 z0 x1 y1 z1 a0 b0 c0 a1 b1 c1 ax), .int (rJoi6 x0 y0 z0 x1 y1 z1 a0 b0 c0 a1 b1 c1 ax), .int (rJoi7 x0 y0 z0 x1 y1 z1 a0 b0 c0 a1 b1 c1 ax), .int (rJoi8 x0 y0 z0 x1 y1 z1 a0 b0 c0 a1 b1 c1 ax), .int (rJoi9 x0 y0 z0 x1 y1 z1 a0 b0 c0 a1 b1 c1 ax)])
    rw [t21]
    simp only [rBck0, rAx0, rGet0, rPut0, rPut1, rPut2, rJoi0, rJoi1, rJoi2, rJoi3, rJoi4, rJoi5, rJoi6, rJoi7, rJoi8, rJoi9, eql_d, lss_d, joiE]
    rw [and_chain]
    simp only [Bool.and_assoc]
    by_cases h : chkB x0 y0 z0 x1 y1 z1 = 0
    · by_cases h' : chkB a0 b0 c0 a1 b1 c1 = 0
      · by_cases ha : inA ax = true
        · have hb := (chkB_ok.1 h).1
          have hb' := (chkB_ok.1 h').1
          simp only [inB, Bool.and_eq_true] at hb hb'
          have g1 := gx_bd (ax := ax) hb.2
          have g2 := gx_bd (ax := ax) hb'.1
          rw [offax ha]
          simp only [h, h', ha, if_true, decide_true, cond_true]
          rw [ar_sub (a := gx a0 b0 c0 ax) (by omega) (by omega)]
          generalize hG : gx x1 y1 z1 ax = G at *
          generalize hF : gx a0 b0 c0 ax = F at *
          by_cases o : (ax = 0 ∨ x0 = a0 ∧ x1 = a1) ∧ (ax = 1 ∨ y0 = b0 ∧ y1 = b1) ∧ (ax = 2 ∨ z0 = c0 ∧ z1 = c1)
          · by_cases u : F < G
            · have n1 : ¬ G ≤ F := by omega
              simp [o, u, n1]
            · have n1 : G ≤ F := by omega
              by_cases v : 1000 < F - G
              · have n2 : ¬ F - G ≤ 1000 := by omega
                simp [o, u, n1, v, n2]
              · have n2 : F - G ≤ 1000 := by omega
                simp [o, u, n1, v, n2]
          · by_cases u : F < G <;> by_cases v : 1000 < F - G <;> simp [o, u, v]
        · simp [h, h', ha]
      · simp [h, h']
    · simp [h]

theorem c22 : CT Try.prog sigs Φ 22 :=
  ct_of [50, 48, 45] [] noLoop 100 mixed rfl Try.func22 (by kernel_rfl) (forall_cons c50 (forall_cons c48 (forall_cons c45 forall_nil))) fun l0 hl0 hp => by
    obtain ⟨l, l1, rfl, hl1⟩ := canon_int hl0
    obtain ⟨t, l2, rfl, hl2⟩ := canon_int hl1
    obtain ⟨k, l3, rfl, hl3⟩ := canon_int hl2
    cases canon_nil hl3
    clear hl3 hl2 hl1 hl0
    show T.holds _ _ _ (resQ Φ fun rs => rs = [.int (mst0 l t k), .int (mst1 l t k)])
    rw [t22]
    simp only [fst0, f3, lng0, swn0, mst0, mst1, mstE, eql_d]
    by_cases h1 : inL l = true
    · by_cases h2 : inL t = true
      · by_cases h3 : inK k = true
        · have b1 := h1
          have b2 := h2
          have b3 := h3
          simp only [inL_iff, inK_iff] at b1 b2 b3
          have e : (l + k).tdiv (t + k) = (l + k) / (t + k) := Int.tdiv_eq_ediv_of_nonneg (by omega)
          have q := tdiv_bd (x := l + k) (k := t + k) (B := 3000000) (by omega) (by omega)
          have n0 : ¬ t + k = 0 := by omega
          rw [ar_add (a := l) (by omega) (by omega), ar_add (a := t) (by omega) (by omega), ar_quo (by omega) (by omega), e]
          simp [h1, h2, h3, n0]
        · simp [h1, h2, h3]
      · simp [h1, h2]
    · simp [h1]

theorem c23 : CT Try.prog sigs Φ 23 :=
  ct_of [50, 48] [] noLoop 100 mixed rfl Try.func23 (by kernel_rfl) (forall_cons c50 (forall_cons c48 forall_nil)) fun l0 hl0 hp => by
    obtain ⟨l, l1, rfl, hl1⟩ := canon_int hl0
    obtain ⟨s, l2, rfl, hl2⟩ := canon_int hl1
    obtain ⟨k, l3, rfl, hl3⟩ := canon_int hl2
    cases canon_nil hl3
    clear hl3 hl2 hl1 hl0
    show T.holds _ _ _ (resQ Φ fun rs => rs = [.int (thk0 l s k), .int (thk1 l s k)])
    rw [t23]
    simp only [lng0, swn0, thk0, thk1, thkE, eql_d, lss_d]
    by_cases h1 : inL l = true
    · by_cases h2 : s < 1
      · have n : ¬ 1 ≤ s := by omega
        simp [h1, h2, n]
      · have p1 : 1 ≤ s := by omega
        by_cases h3 : 1000 < s
        · have n : ¬ s ≤ 1000 := by omega
          simp [h1, h2, h3, n]
        · have p2 : s ≤ 1000 := by omega
          by_cases h4 : inK k = true
          · have b1 := h1
            have b3 := h4
            simp only [inL_iff, inK_iff] at b1 b3
            have n0 : ¬ s = 0 := by omega
            have m := mul_bd (a := s) (b := k) (A := 1000) (B := 1000) (by omega) (by omega) (by omega) (by omega)
            have q := tdiv_bd (x := l + k - s * k) (k := s) (B := 10000000) (by omega) (by omega)
            rw [ar_add (a := l) (by omega) (by omega), ar_mul (a := s) (by omega) (by omega), ar_sub (by omega) (by omega), ar_quo (by omega) (by omega)]
            by_cases h5 : thkN l s k < 1
            · have h5' := h5
              unfold thkN at h5'
              simp [h1, h2, h3, p1, p2, h4, n0, h5, h5']
            · have h5' := h5
              unfold thkN at h5'
              have h5'' : ¬ (l + k - s * k).tdiv s < 1 := h5'
              simp [h1, h2, h3, p1, p2, h4, n0, h5, h5'', thkN]
          · simp [h1, h2, h3, p1, p2, h4]
    · simp [h1]

theorem c52 : CT Try.prog sigs Φ 52 :=
  ct_of [56] [] noLoop 100 mixed rfl Try.func52 (by kernel_rfl) (forall_cons c56 forall_nil) fun l0 hl0 hp => by
    obtain ⟨x0, l1, rfl, hl1⟩ := canon_int hl0
    obtain ⟨y0, l2, rfl, hl2⟩ := canon_int hl1
    obtain ⟨z0, l3, rfl, hl3⟩ := canon_int hl2
    obtain ⟨x1, l4, rfl, hl4⟩ := canon_int hl3
    obtain ⟨y1, l5, rfl, hl5⟩ := canon_int hl4
    obtain ⟨z1, l6, rfl, hl6⟩ := canon_int hl5
    obtain ⟨a0, l7, rfl, hl7⟩ := canon_int hl6
    obtain ⟨b0, l8, rfl, hl8⟩ := canon_int hl7
    obtain ⟨c0, l9, rfl, hl9⟩ := canon_int hl8
    obtain ⟨a1, l10, rfl, hl10⟩ := canon_int hl9
    obtain ⟨b1, l11, rfl, hl11⟩ := canon_int hl10
    obtain ⟨c1, l12, rfl, hl12⟩ := canon_int hl11
    cases canon_nil hl12
    clear hl12 hl11 hl10 hl9 hl8 hl7 hl6 hl5 hl4 hl3 hl2 hl1 hl0
    show T.holds _ _ _ (resQ Φ fun rs => rs = [.bool (ins0 x0 y0 z0 x1 y1 z1 a0 b0 c0 a1 b1 c1)])
    rw [t52]
    simp only [sds0, sds1, sds2, sds3, sds4, sds5, lss_d, cond_if, decide_eq_true_eq, ins0, insE]
    repeat' split
    all_goals first | exact congrArg (fun b => [Sc.bool b]) (decide_eq_false (by omega)).symm | exact congrArg (fun b => [Sc.bool b]) (decide_eq_true (by omega)).symm

theorem c30 : CT Try.prog sigs Φ 30 :=
  ct_of [35, 40, 24, 25, 41, 26] [] noLoop 100 mixed rfl Try.func30 (by kernel_rfl) (forall_cons c35 (forall_cons c40 (forall_cons c24 (forall_cons c25 (forall_cons c41 (forall_cons c26 forall_nil)))))) fun l0 hl0 hp => by
    obtain ⟨x0, l1, rfl, hl1⟩ := canon_int hl0
    obtain ⟨y0, l2, rfl, hl2⟩ := canon_int hl1
    obtain ⟨z0, l3, rfl, hl3⟩ := canon_int hl2
    obtain ⟨x1, l4, rfl, hl4⟩ := canon_int hl3
    obtain ⟨y1, l5, rfl, hl5⟩ := canon_int hl4
    obtain ⟨z1, l6, rfl, hl6⟩ := canon_int hl5
    obtain ⟨ax, l7, rfl, hl7⟩ := canon_int hl6
    obtain ⟨t, l8, rfl, hl8⟩ := canon_int hl7
    obtain ⟨k, l9, rfl, hl9⟩ := canon_int hl8
    cases canon_nil hl9
    clear hl9 hl8 hl7 hl6 hl5 hl4 hl3 hl2 hl1 hl0
    show T.holds _ _ _ (resQ Φ fun rs => rs = [.int (sli0 x0 y0 z0 x1 y1 z1 ax t k)])
    rw [t30]
    simp only [rBck0, rAx0, rLen0, rKrf0, rGet0, rMst0, sli0, eql_d, lss_d, cntE]
    by_cases h : chkB x0 y0 z0 x1 y1 z1 = 0
    · by_cases ha : inA ax = true
      · by_cases h2 : inL t = true
        · by_cases h3 : inK k = true
          · have hl := gx_len (ax := ax) h
            have hl' := hl
            rw [inL_iff] at hl'
            rw [ar_sub (by omega) (by omega)]
            have hP : rMstP (gx x1 y1 z1 ax - gx x0 y0 z0 ax) t k = true := by unfold rMstP; rw [hl, h2, h3]; rfl
            have e : (gx x1 y1 z1 ax - gx x0 y0 z0 ax + k) / (t + k) = cntN x0 y0 z0 x1 y1 z1 ax t k := rfl
            rw [hP, e]
            by_cases n0 : cntN x0 y0 z0 x1 y1 z1 ax t k = 0
            · simp [h, ha, h2, h3, n0]
            · by_cases n1 : 1000 < cntN x0 y0 z0 x1 y1 z1 ax t k <;> simp [h, ha, h2, h3, n0, n1]
          · simp [h, ha, h2, h3]
        · simp [h, ha, h2]
      · simp [h, ha]
    · simp [h]

theorem c51 : CT Try.prog sigs Φ 51 :=
  ct_of [46, 47, 50, 48, 45, 42] [] noLoop 100 mixed rfl Try.func51 (by kernel_rfl) (forall_cons c46 (forall_cons c47 (forall_cons c50 (forall_cons c48 (forall_cons c45 (forall_cons c42 forall_nil)))))) fun l0 hl0 hp => by
    obtain ⟨x0, l1, rfl, hl1⟩ := canon_int hl0
    obtain ⟨y0, l2, rfl, hl2⟩ := canon_int hl1
    obtain ⟨z0, l3, rfl, hl3⟩ := canon_int hl2
    obtain ⟨x1, l4, rfl, hl4⟩ := canon_int hl3
    obtain ⟨y1, l5, rfl, hl5⟩ := canon_int hl4
    obtain ⟨z1, l6, rfl, hl6⟩ := canon_int hl5
    obtain ⟨ax, l7, rfl, hl7⟩ := canon_int hl6
    obtain ⟨t, l8, rfl, hl8⟩ := canon_int hl7
    obtain ⟨k, l9, rfl, hl9⟩ := canon_int hl8
    cases canon_nil hl9
    clear hl9 hl8 hl7 hl6 hl5 hl4 hl3 hl2 hl1 hl0
    show T.holds _ _ _ (resQ Φ fun rs => rs = [.int (cnt0 x0 y0 z0 x1 y1 z1 ax t k), .int (cnt1 x0 y0 z0 x1 y1 z1 ax t k)])
    rw [t51]
    simp only [fst0, f4, bck0, axl0, lng0, swn0, end'P, end'0, end'1, cnt0, cnt1, eql_d, lss_d, cntE]
    by_cases h : chkB x0 y0 z0 x1 y1 z1 = 0
    · by_cases ha : inA ax = true
      · by_cases h2 : inL t = true
        · by_cases h3 : inK k = true
          · have hl := gx_len (ax := ax) h
            have hl' := hl
            have h2' := h2
            have h3' := h3
            rw [inL_iff] at hl' h2'
            rw [inK_iff] at h3'
            have e : (gx x1 y1 z1 ax - gx x0 y0 z0 ax + k).tdiv (t + k) = cntN x0 y0 z0 x1 y1 z1 ax t k := Int.tdiv_eq_ediv_of_nonneg (by omega)
            have q := tdiv_bd (x := gx x1 y1 z1 ax - gx x0 y0 z0 ax + k) (k := t + k) (B := 3000000) (by omega) (by omega)
            have nz : ¬ t + k = 0 := by omega
            rw [ar_sub (by omega) (by omega), ar_add (a := gx x1 y1 z1 ax - gx x0 y0 z0 ax) (by omega) (by omega), ar_add (a := t) (by omega) (by omega), ar_quo (by omega) (by omega), e]
            by_cases n0 : cntN x0 y0 z0 x1 y1 z1 ax t k = 0
            · simp [h, ha, h2, h3, nz, n0]
            · by_cases n1 : 1000 < cntN x0 y0 z0 x1 y1 z1 ax t k <;> simp [h, ha, h2, h3, nz, n0, n1]
          · simp [h, ha, h2, h3]
        · simp [h, ha, h2]
      · simp [h, ha]
    · simp [h]

end Go.Proofs.Ytdfcphfoccgopaa
