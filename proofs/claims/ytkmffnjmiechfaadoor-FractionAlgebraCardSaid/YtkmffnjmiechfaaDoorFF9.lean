/- The fraction seat: sums, quotients, comparisons of the reference; New, Cmp, Floor, Round. -/
import Derived.Test.YtkmffnjmiechfaaDoorFF8
namespace Go.Proofs.YtkmffnjmiechfaaDoor
open Go.Sx
set_option linter.unusedVariables false
set_option linter.unusedSimpArgs false
set_option maxRecDepth 100000


theorem mg_split (x : Int) : mg (x / 18446744073709551616) (x % 18446744073709551616) = x := by unfold mg; omega
theorem wu_split {x : Int} (h0 : 0 ≤ x) (h1 : x < 85070591730234615865843651857942052864) : wu (x / 18446744073709551616) (x % 18446744073709551616) = true := by rw [wu_iff]; omega
/-- A number by its sign and its size. -/
def sv (s : Bool) (P : Int) : Int := if s = true then -P else P
theorem sv_not (s : Bool) (P : Int) : sv (!s) P = -sv s P := by cases s <;> simp [sv]
theorem sv_tim (a b : Int) : sv (decide (a < 0) != decide (b < 0)) (ab a * ab b) = a * b := by
  unfold sv ab
  by_cases h1 : a < 0 <;> by_cases h2 : b < 0 <;> simp [h1, h2, Int.neg_mul, Int.mul_neg]
theorem sv_plu {s t : Bool} {P Q : Int} (hP : 0 ≤ P) (hQ : 0 ≤ Q) :
    sv (if (s == t) = true then s else if P < Q then t else s) (if (s == t) = true then P + Q else ab (P - Q)) = sv s P + sv t Q := by
  unfold sv ab
  cases s <;> cases t <;> simp <;> (repeat' split) <;> omega
theorem ab_nonneg (n : Int) : 0 ≤ ab n := by unfold ab; split <;> omega
theorem ab_pos {n : Int} (h : 0 ≤ n) : ab n = n := by unfold ab; rw [if_neg (by omega)]
theorem tim_bd {a b : Int} (h1 : -1000000000000000000 < a ∧ a < 1000000000000000000) (h2 : -1000000000000000000 < b ∧ b < 1000000000000000000) : 0 ≤ ab a * ab b ∧ ab a * ab b ≤ 1000000000000000000000000000000000000 := by
  have a0 := ab_nonneg a
  have b0 := ab_nonneg b
  have a1 : ab a ≤ 1000000000000000000 := by unfold ab; split <;> omega
  have b1 : ab b ≤ 1000000000000000000 := by unfold ab; split <;> omega
  exact nat_mul_lt a0 b0 a1 b1
theorem plu_words (s t : Bool) {P Q : Int} (hP : 0 ≤ P) (hQ : 0 ≤ Q) : ∃ (S : Bool) (R : Int), plu2 (P / 18446744073709551616) (P % 18446744073709551616) s (Q / 18446744073709551616) (Q % 18446744073709551616) t = S ∧
    plu0 (P / 18446744073709551616) (P % 18446744073709551616) s (Q / 18446744073709551616) (Q % 18446744073709551616) t = R / 18446744073709551616 ∧
    plu1 (P / 18446744073709551616) (P % 18446744073709551616) s (Q / 18446744073709551616) (Q % 18446744073709551616) t = R % 18446744073709551616 ∧ 0 ≤ R ∧ R ≤ P + Q ∧ sv S R = sv s P + sv t Q := by
  refine ⟨_, (if (s == t) = true then P + Q else ab (P - Q)), rfl, ?_, ?_, ?_, ?_, ?_⟩
  · simp only [plu0, mg_split]
  · simp only [plu1, mg_split]
  · split
    · omega
    · exact ab_nonneg _
  · unfold ab
    split
    · omega
    · split <;> omega
  · simp only [plu2, mg_split]
    exact sv_plu hP hQ
theorem gI_neg (a b : Int) : gI (-a) b = gI a b := by unfold gI; rw [Int.natAbs_neg]
theorem vF_neg (n d : Int) : vF (-n) d = vF n d := by
  rw [Bool.eq_iff_iff, vF_iff, vF_iff, gI_neg]
  constructor <;> (intro h; omega)
theorem low_words (S u : Bool) {R D : Int} (hR : 0 ≤ R) (hR1 : R < 85070591730234615865843651857942052864) (hD : 0 < D) (hD1 : D < 85070591730234615865843651857942052864) :
    lowP (R / 18446744073709551616) (R % 18446744073709551616) S (D / 18446744073709551616) (D % 18446744073709551616) u = true ∧
    low0 (R / 18446744073709551616) (R % 18446744073709551616) S (D / 18446744073709551616) (D % 18446744073709551616) u = frN (sv S R) D ∧
    low1 (R / 18446744073709551616) (R % 18446744073709551616) S (D / 18446744073709551616) (D % 18446744073709551616) u = frD (sv S R) D ∧
    low2 (R / 18446744073709551616) (R % 18446744073709551616) S (D / 18446744073709551616) (D % 18446744073709551616) u = frE (sv S R) D := by
  refine ⟨?_, ?_, ?_, ?_⟩
  · unfold lowP
    rw [wu_split hR hR1, wu_split (by omega) hD1, mg_split, decide_eq_true hD]
    rfl
  · simp only [low0, mg_split, sv]
  · simp only [low1, mg_split, sv]
  · simp only [low2, mg_split, sv]

theorem c13 : CT Tryd.prog sigs Φ 13 :=
  ct_of [23, 41] [39, 74, 83, 84] noLoop 100 mixed rfl Tryd.func13 (by kernel_rfl) (forall_cons c23 (forall_cons c41 forall_nil)) fun l0 hl0 hp => by
    obtain ⟨an, l1, rfl, hl1⟩ := canon_int hl0
    obtain ⟨ad, l2, rfl, hl2⟩ := canon_int hl1
    obtain ⟨bn, l3, rfl, hl3⟩ := canon_int hl2
    obtain ⟨bd, l4, rfl, hl4⟩ := canon_int hl3
    cases canon_nil hl4
    clear hl4 hl3 hl2 hl1 hl0
    show T.holds _ _ _ (resQ Φ fun rs => rs = [.int (Mul0 an ad bn bd), .int (Mul1 an ad bn bd), .int (Mul2 an ad bn bd)])
    rw [t13]
    simp only [Val0, Mul0, Mul1, Mul2]
    by_cases v1 : vF an ad = true
    · by_cases v2 : vF bn bd = true
      · have hp : mulP an ad bn bd = true := by unfold mulP; rw [v1, v2]; rfl
        rw [v1, v2, hp]
        rfl
      · have v2' : vF bn bd = false := by simpa using v2
        rw [v1, v2']
        rfl
    · have v1' : vF an ad = false := by simpa using v1
      rw [v1']
      rfl

theorem c14 : CT Tryd.prog sigs Φ 14 :=
  ct_of [23, 41] [39, 74, 83, 84] noLoop 100 mixed rfl Tryd.func14 (by kernel_rfl) (forall_cons c23 (forall_cons c41 forall_nil)) fun l0 hl0 hp => by
    obtain ⟨an, l1, rfl, hl1⟩ := canon_int hl0
    obtain ⟨ad, l2, rfl, hl2⟩ := canon_int hl1
    obtain ⟨bn, l3, rfl, hl3⟩ := canon_int hl2
    obtain ⟨bd, l4, rfl, hl4⟩ := canon_int hl3
    cases canon_nil hl4
    clear hl4 hl3 hl2 hl1 hl0
    show T.holds _ _ _ (resQ Φ fun rs => rs = [.int (Div0 an ad bn bd), .int (Div1 an ad bn bd), .int (Div2 an ad bn bd)])
    rw [t14]
    simp only [Val0, Div0, Div1, Div2]
    by_cases v1 : vF an ad = true
    · by_cases v2 : vF bn bd = true
      · have v2' := v2
        rw [vF_iff] at v2'
        rw [v1, v2, eql_d, lss_d]
        by_cases c0 : bn = 0
        · rw [decide_eq_true c0]
          simp [c0]
        · rw [decide_eq_false c0]
          by_cases c1 : bn < 0
          · have e1 : arI .sub .i64 0 bn = -bn := by rw [ar_sub (by omega) (by omega)]; omega
            have e2 : arI .sub .i64 0 bd = -bd := by rw [ar_sub (by omega) (by omega)]; omega
            have hp : mulP an ad (-bd) (-bn) = true := by
              unfold mulP
              have : vF (-bd) (-bn) = true := by
                rw [vF_iff, gI_neg, gI_comm, gI_neg]
                omega
              rw [v1, this]; rfl
            rw [decide_eq_true c1, e1, e2, hp]
            have ea : ab bn = -bn := by unfold ab; rw [if_pos c1]
            simp [mul0, mul1, mul2, ea, c0, c1, Int.mul_neg]
          · have hp : mulP an ad bd bn = true := by
              unfold mulP
              have : vF bd bn = true := by
                rw [vF_iff, gI_comm]
                omega
              rw [v1, this]; rfl
            rw [decide_eq_false c1, hp]
            have ea : ab bn = bn := by unfold ab; rw [if_neg c1]
            simp [mul0, mul1, mul2, ea, c0, c1]
      · have v2' : vF bn bd = false := by simpa using v2
        rw [v1, v2']
        simp
    · have v1' : vF an ad = false := by simpa using v1
      rw [v1']
      simp

theorem c17 : CT Tryd.prog sigs Φ 17 :=
  ct_of [45, 44, 43] [39, 74, 83, 84] noLoop 100 mixed rfl Tryd.func17 (by kernel_rfl) (forall_cons c45 (forall_cons c44 (forall_cons c43 forall_nil))) fun l0 hl0 hp => by
    obtain ⟨an, l1, rfl, hl1⟩ := canon_int hl0
    obtain ⟨ad, l2, rfl, hl2⟩ := canon_int hl1
    obtain ⟨bn, l3, rfl, hl3⟩ := canon_int hl2
    obtain ⟨bd, l4, rfl, hl4⟩ := canon_int hl3
    cases canon_nil hl4
    clear hl4 hl3 hl2 hl1 hl0
    have hp : rAddP an ad bn bd = true := hp
    show T.holds _ _ _ (resQ Φ fun rs => rs = [.int (rAdd0 an ad bn bd), .int (rAdd1 an ad bn bd), .int (rAdd2 an ad bn bd)])
    rw [t17]
    simp only [rAddP, Bool.and_eq_true] at hp
    obtain ⟨v1, v2⟩ := hp
    rw [vF_iff] at v1 v2
    have A := tim_bd (a := an) (b := bd) (by omega) (by omega)
    have B := tim_bd (a := bn) (b := ad) (by omega) (by omega)
    have D := tim_bd (a := ad) (b := bd) (by omega) (by omega)
    have sA := sv_tim an bd
    have sB := sv_tim bn ad
    have eD : ab ad * ab bd = ad * bd := by rw [ab_pos (by omega), ab_pos (by omega)]
    have D0 : 0 < ad * bd := Int.mul_pos (by omega) (by omega)
    rw [eD] at D
    have p1 : timP an bd = true := by unfold timP; rw [Bool.and_eq_true, ii_iff, ii_iff]; omega
    have p2 : timP bn ad = true := by unfold timP; rw [Bool.and_eq_true, ii_iff, ii_iff]; omega
    have p3 : timP ad bd = true := by unfold timP; rw [Bool.and_eq_true, ii_iff, ii_iff]; omega
    obtain ⟨S, R, e2, e0, e1, R0, R1, hs⟩ := plu_words (decide (an < 0) != decide (bd < 0)) (decide (bn < 0) != decide (ad < 0)) A.1 B.1
    rw [sA, sB] at hs
    have p4 : pluP (tim0 an bd) (tim1 an bd) (tim2 an bd) (tim0 bn ad) (tim1 bn ad) (tim2 bn ad) = true := by
      unfold pluP
      rw [show wu (tim0 an bd) (tim1 an bd) = true from wu_split A.1 (by omega), show wu (tim0 bn ad) (tim1 bn ad) = true from wu_split B.1 (by omega)]; rfl
    rw [p1, p2, p3, p4]
    simp only [tim0, tim1, tim2, eD]
    rw [e0, e1, e2]
    obtain ⟨q0, q1, q2, q3⟩ := low_words S (decide (ad < 0) != decide (bd < 0)) R0 (by omega) D0 (by omega)
    rw [q0, q1, q2, q3, hs]
    rfl

theorem c18 : CT Tryd.prog sigs Φ 18 :=
  ct_of [45, 46, 44, 43] [39, 74, 83, 84] noLoop 100 mixed rfl Tryd.func18 (by kernel_rfl) (forall_cons c45 (forall_cons c46 (forall_cons c44 (forall_cons c43 forall_nil)))) fun l0 hl0 hp => by
    obtain ⟨an, l1, rfl, hl1⟩ := canon_int hl0
    obtain ⟨ad, l2, rfl, hl2⟩ := canon_int hl1
    obtain ⟨bn, l3, rfl, hl3⟩ := canon_int hl2
    obtain ⟨bd, l4, rfl, hl4⟩ := canon_int hl3
    cases canon_nil hl4
    clear hl4 hl3 hl2 hl1 hl0
    have hp : rSubP an ad bn bd = true := hp
    show T.holds _ _ _ (resQ Φ fun rs => rs = [.int (rSub0 an ad bn bd), .int (rSub1 an ad bn bd), .int (rSub2 an ad bn bd)])
    rw [t18]
    simp only [rSubP, Bool.and_eq_true] at hp
    obtain ⟨v1, v2⟩ := hp
    rw [vF_iff] at v1 v2
    have A := tim_bd (a := an) (b := bd) (by omega) (by omega)
    have B := tim_bd (a := bn) (b := ad) (by omega) (by omega)
    have D := tim_bd (a := ad) (b := bd) (by omega) (by omega)
    have sA := sv_tim an bd
    have sB := sv_tim bn ad
    have eD : ab ad * ab bd = ad * bd := by rw [ab_pos (by omega), ab_pos (by omega)]
    have D0 : 0 < ad * bd := Int.mul_pos (by omega) (by omega)
    rw [eD] at D
    have p1 : timP an bd = true := by unfold timP; rw [Bool.and_eq_true, ii_iff, ii_iff]; omega
    have p2 : timP bn ad = true := by unfold timP; rw [Bool.and_eq_true, ii_iff, ii_iff]; omega
    have p3 : timP ad bd = true := by unfold timP; rw [Bool.and_eq_true, ii_iff, ii_iff]; omega
    obtain ⟨S, R, e2, e0, e1, R0, R1, hs⟩ := plu_words (decide (an < 0) != decide (bd < 0)) (!(decide (bn < 0) != decide (ad < 0))) A.1 B.1
    rw [sv_not, sA, sB, ← Int.sub_eq_add_neg] at hs
    have p4 : pluP (tim0 an bd) (tim1 an bd) (tim2 an bd) (mns0 (tim0 bn ad) (tim1 bn ad) (tim2 bn ad)) (mns1 (tim0 bn ad) (tim1 bn ad) (tim2 bn ad)) (mns2 (tim0 bn ad) (tim1 bn ad) (tim2 bn ad)) = true := by
      unfold pluP
      rw [show wu (tim0 an bd) (tim1 an bd) = true from wu_split A.1 (by omega), show wu (mns0 (tim0 bn ad) (tim1 bn ad) (tim2 bn ad)) (mns1 (tim0 bn ad) (tim1 bn ad) (tim2 bn ad)) = true from wu_split B.1 (by omega)]; rfl
    rw [p1, p2, p3, p4]
    simp only [mns0, mns1, mns2, tim0, tim1, tim2, eD]
    rw [e0, e1, e2]
    obtain ⟨q0, q1, q2, q3⟩ := low_words S (decide (ad < 0) != decide (bd < 0)) R0 (by omega) D0 (by omega)
    rw [q0, q1, q2, q3, hs]
    rfl

theorem c28 : CT Tryd.prog sigs Φ 28 :=
  ct_of [45, 46, 44, 57] [39, 74, 83, 84] noLoop 100 mixed rfl Tryd.func28 (by kernel_rfl) (forall_cons c45 (forall_cons c46 (forall_cons c44 (forall_cons c57 forall_nil)))) fun l0 hl0 hp => by
    obtain ⟨an, l1, rfl, hl1⟩ := canon_int hl0
    obtain ⟨ad, l2, rfl, hl2⟩ := canon_int hl1
    obtain ⟨bn, l3, rfl, hl3⟩ := canon_int hl2
    obtain ⟨bd, l4, rfl, hl4⟩ := canon_int hl3
    cases canon_nil hl4
    clear hl4 hl3 hl2 hl1 hl0
    have hp : rCmpP an ad bn bd = true := hp
    show T.holds _ _ _ (resQ Φ fun rs => rs = [.int (rCmp0 an ad bn bd)])
    rw [t28]
    simp only [rCmpP, Bool.and_eq_true] at hp
    obtain ⟨v1, v2⟩ := hp
    rw [vF_iff] at v1 v2
    have A := tim_bd (a := an) (b := bd) (by omega) (by omega)
    have B := tim_bd (a := bn) (b := ad) (by omega) (by omega)
    have D := tim_bd (a := ad) (b := bd) (by omega) (by omega)
    have sA := sv_tim an bd
    have sB := sv_tim bn ad
    have eD : ab ad * ab bd = ad * bd := by rw [ab_pos (by omega), ab_pos (by omega)]
    have D0 : 0 < ad * bd := Int.mul_pos (by omega) (by omega)
    rw [eD] at D
    have p1 : timP an bd = true := by unfold timP; rw [Bool.and_eq_true, ii_iff, ii_iff]; omega
    have p2 : timP bn ad = true := by unfold timP; rw [Bool.and_eq_true, ii_iff, ii_iff]; omega
    have p3 : timP ad bd = true := by unfold timP; rw [Bool.and_eq_true, ii_iff, ii_iff]; omega
    obtain ⟨S, R, e2, e0, e1, R0, R1, hs⟩ := plu_words (decide (an < 0) != decide (bd < 0)) (!(decide (bn < 0) != decide (ad < 0))) A.1 B.1
    rw [sv_not, sA, sB, ← Int.sub_eq_add_neg] at hs
    have p4 : pluP (tim0 an bd) (tim1 an bd) (tim2 an bd) (mns0 (tim0 bn ad) (tim1 bn ad) (tim2 bn ad)) (mns1 (tim0 bn ad) (tim1 bn ad) (tim2 bn ad)) (mns2 (tim0 bn ad) (tim1 bn ad) (tim2 bn ad)) = true := by
      unfold pluP
      rw [show wu (tim0 an bd) (tim1 an bd) = true from wu_split A.1 (by omega), show wu (mns0 (tim0 bn ad) (tim1 bn ad) (tim2 bn ad)) (mns1 (tim0 bn ad) (tim1 bn ad) (tim2 bn ad)) = true from wu_split B.1 (by omega)]; rfl
    rw [p1, p2, p4]
    simp only [mns0, mns1, mns2, tim0, tim1, tim2]
    rw [e0, e1, e2]
    simp only [zer0, rCmp0]
    unfold cmp3
    by_cases z : R = 0
    · subst z
      have : an * bd - bn * ad = 0 := by rw [← hs]; cases S <;> rfl
      rw [if_neg (by omega), if_neg (by omega)]
      rfl
    · have zf : (decide (R / 18446744073709551616 = 0) && decide (R % 18446744073709551616 = 0)) = false := by
        by_cases c1 : R / 18446744073709551616 = 0
        · have c2 : ¬ R % 18446744073709551616 = 0 := by omega
          simp [c2]
        · simp [c1]
      rw [zf]
      cases S
      · have : R = an * bd - bn * ad := hs
        rw [if_neg (by omega), if_pos (by omega)]
        rfl
      · have : -R = an * bd - bn * ad := hs
        rw [if_pos (by omega)]
        rfl

theorem c19 : CT Tryd.prog sigs Φ 19 :=
  ct_of [45, 43] [39, 74, 83, 84] noLoop 100 mixed rfl Tryd.func19 (by kernel_rfl) (forall_cons c45 (forall_cons c43 forall_nil)) fun l0 hl0 hp => by
    obtain ⟨an, l1, rfl, hl1⟩ := canon_int hl0
    obtain ⟨ad, l2, rfl, hl2⟩ := canon_int hl1
    obtain ⟨bn, l3, rfl, hl3⟩ := canon_int hl2
    obtain ⟨bd, l4, rfl, hl4⟩ := canon_int hl3
    cases canon_nil hl4
    clear hl4 hl3 hl2 hl1 hl0
    have hp : rMulP an ad bn bd = true := hp
    show T.holds _ _ _ (resQ Φ fun rs => rs = [.int (rMul0 an ad bn bd), .int (rMul1 an ad bn bd), .int (rMul2 an ad bn bd)])
    rw [t19]
    simp only [rMulP, Bool.and_eq_true] at hp
    obtain ⟨v1, v2⟩ := hp
    rw [vF_iff] at v1 v2
    have A := tim_bd (a := an) (b := bn) (by omega) (by omega)
    have D := tim_bd (a := ad) (b := bd) (by omega) (by omega)
    have sA := sv_tim an bn
    have eD : ab ad * ab bd = ad * bd := by rw [ab_pos (by omega), ab_pos (by omega)]
    have D0 : 0 < ad * bd := Int.mul_pos (by omega) (by omega)
    rw [eD] at D
    have p1 : timP an bn = true := by unfold timP; rw [Bool.and_eq_true, ii_iff, ii_iff]; omega
    have p3 : timP ad bd = true := by unfold timP; rw [Bool.and_eq_true, ii_iff, ii_iff]; omega
    rw [p1, p3]
    simp only [tim0, tim1, tim2, eD]
    obtain ⟨q0, q1, q2, q3⟩ := low_words (decide (an < 0) != decide (bn < 0)) (decide (ad < 0) != decide (bd < 0)) A.1 (by omega) D0 (by omega)
    rw [q0, q1, q2, q3, sA]
    rfl

theorem c20 : CT Tryd.prog sigs Φ 20 :=
  ct_of [45, 43] [39, 74, 83, 84] noLoop 100 mixed rfl Tryd.func20 (by kernel_rfl) (forall_cons c45 (forall_cons c43 forall_nil)) fun l0 hl0 hp => by
    obtain ⟨an, l1, rfl, hl1⟩ := canon_int hl0
    obtain ⟨ad, l2, rfl, hl2⟩ := canon_int hl1
    obtain ⟨bn, l3, rfl, hl3⟩ := canon_int hl2
    obtain ⟨bd, l4, rfl, hl4⟩ := canon_int hl3
    cases canon_nil hl4
    clear hl4 hl3 hl2 hl1 hl0
    have hp : rDivP an ad bn bd = true := hp
    show T.holds _ _ _ (resQ Φ fun rs => rs = [.int (rDiv0 an ad bn bd), .int (rDiv1 an ad bn bd), .int (rDiv2 an ad bn bd)])
    rw [t20]
    simp only [rDivP, Bool.and_eq_true, decide_eq_true_eq] at hp
    obtain ⟨⟨v1, v2⟩, hb⟩ := hp
    rw [vF_iff] at v1 v2
    have A := tim_bd (a := an) (b := bd) (by omega) (by omega)
    have D := tim_bd (a := ad) (b := bn) (by omega) (by omega)
    have sA := sv_tim an bd
    have eD : ab ad * ab bn = ad * ab bn := by rw [ab_pos (n := ad) (by omega)]
    have bp : 0 < ab bn := by unfold ab; split <;> omega
    have D0 : 0 < ad * ab bn := Int.mul_pos (by omega) bp
    rw [eD] at D
    have p1 : timP an bd = true := by unfold timP; rw [Bool.and_eq_true, ii_iff, ii_iff]; omega
    have p3 : timP ad bn = true := by unfold timP; rw [Bool.and_eq_true, ii_iff, ii_iff]; omega
    rw [p1, p3]
    simp only [tim0, tim1, tim2, eD]
    obtain ⟨q0, q1, q2, q3⟩ := low_words (!((decide (an < 0) != decide (bd < 0)) == (decide (ad < 0) != decide (bn < 0)))) false A.1 (by omega) D0 (by omega)
    rw [q0, q1, q2, q3]
    have es : sv (!((decide (an < 0) != decide (bd < 0)) == (decide (ad < 0) != decide (bn < 0)))) (ab an * ab bd) = if bn < 0 then -(an * bd) else an * bd := by
      have ed : decide (ad < 0) = false := decide_eq_false (by omega)
      rw [ed]
      by_cases c : bn < 0
      · rw [decide_eq_true c, if_pos c, ← sA, ← sv_not]
        congr 1
        cases (decide (an < 0) != decide (bd < 0)) <;> rfl
      · rw [decide_eq_false c, if_neg c, ← sA]
        congr 1
        cases (decide (an < 0) != decide (bd < 0)) <;> rfl
    rw [es]
    rfl

theorem c21 : CT Tryd.prog sigs Φ 21 :=
  ct_of [47, 48, 49] [39, 74, 83, 84] noLoop 100 mixed rfl Tryd.func21 (by kernel_rfl) (forall_cons c47 (forall_cons c48 (forall_cons c49 forall_nil))) fun l0 hl0 hp => by
    obtain ⟨num, l1, rfl, hl1⟩ := canon_int hl0
    obtain ⟨den, l2, rfl, hl2⟩ := canon_int hl1
    cases canon_nil hl2
    clear hl2 hl1 hl0
    have hp : NewP num den = true := hp
    show T.holds _ _ _ (resQ Φ fun rs => rs = [.int (New0 num den), .int (New1 num den), .int (New2 num den)])
    rw [t21]
    simp only [NewP, Bool.and_eq_true, ii_iff] at hp
    rw [eql_d]
    simp only [New0, New1, New2]
    by_cases c0 : den = 0
    · rw [decide_eq_true c0]
      simp [c0]
    · rw [decide_eq_false c0]
      have s1 : sizP num = true := by unfold sizP; rw [ii_iff]; omega
      have s2 : sizP den = true := by unfold sizP; rw [ii_iff]; omega
      have n0 := ab_nonneg num
      have d0 : 0 < ab den := by unfold ab; split <;> omega
      have n1 : ab num < 18446744073709551616 := by unfold ab; split <;> omega
      have d1 : ab den < 18446744073709551616 := by unfold ab; split <;> omega
      have gp : gcdP (ab num) (ab den) = true := by unfold gcdP; rw [Bool.and_eq_true, uu_iff, uu_iff]; omega
      have G0 : 0 < gI num (ab den) := gI_pos (.inr d0)
      rw [s1, s2]
      simp only [siz0]
      rw [gp]
      simp only [gcd0, gI_ab]
      have e1 : (!(cmpI .eql (gI num (ab den)) 0)) = true := by rw [eql_d, decide_eq_false (by omega)]; rfl
      rw [e1, uar_quo n0 n1 G0, uar_quo (by omega) d1 G0]
      have a0 : 0 ≤ ab num / gI num (ab den) := Int.ediv_nonneg n0 (by omega)
      have a1 : ab num / gI num (ab den) ≤ ab num := Int.ediv_le_self _ n0
      have b0 : 0 ≤ ab den / gI num (ab den) := Int.ediv_nonneg (by omega) (by omega)
      have b1 : ab den / gI num (ab den) ≤ ab den := Int.ediv_le_self _ (by omega)
      have mp : ∀ s, makP s (ab num / gI num (ab den)) (ab den / gI num (ab den)) = true := fun s => by unfold makP; rw [Bool.and_eq_true, uu_iff, uu_iff]; omega
      rw [mp]
      have eg : gI (if den < 0 then -num else num) (ab den) = gI num (ab den) := by split; exact gI_neg _ _; rfl
      have ea : ab (if den < 0 then -num else num) = ab num := by unfold ab; (repeat' split) <;> omega
      have et := tdiv_sgn (N := if den < 0 then -num else num) G0
      rw [ea] at et
      have fe := fr_eq (N := if den < 0 then -num else num) (D := ab den) rfl rfl rfl
      rw [eg, ea, et] at fe
      simp only [mak0, mak1, mak2]
      rw [fe.1, fe.2.1, fe.2.2]
      clear fe
      generalize gI num (ab den) = G at *
      have z : num = 0 → ab num / G = 0 := fun h => by subst h; exact Int.zero_ediv _
      generalize ab num / G = a at *
      generalize ab den / G = b at *
      have es : (if (!(cmpI .lss num 0 == cmpI .lss den 0)) = true then -a else a) = if (if den < 0 then -num else num) < 0 then -a else a := by
        rw [lss_d, lss_d]
        by_cases h1 : num < 0 <;> by_cases h2 : den < 0
        · rw [if_pos h2, if_neg (show ¬ -num < 0 by omega)]; simp [h1, h2]
        · rw [if_neg h2, if_pos h1]; simp [h1, h2]
        · rw [if_pos h2]
          by_cases h3 : num = 0
          · rw [z h3]; simp
          · rw [if_pos (show -num < 0 by omega)]; simp [h1, h2]
        · rw [if_neg h2, if_neg h1]; simp [h1, h2]
      rw [es]
      by_cases c1 : a < 1000000000000000000 <;> by_cases c2 : b < 1000000000000000000 <;> simp [c0, c1, c2]

theorem c22 : CT Tryd.prog sigs Φ 22 :=
  ct_of [50, 43] [39, 74, 83, 84] noLoop 100 mixed rfl Tryd.func22 (by kernel_rfl) (forall_cons c50 (forall_cons c43 forall_nil)) fun l0 hl0 hp => by
    obtain ⟨num, l1, rfl, hl1⟩ := canon_int hl0
    obtain ⟨den, l2, rfl, hl2⟩ := canon_int hl1
    cases canon_nil hl2
    clear hl2 hl1 hl0
    have hp : rNewP num den = true := hp
    show T.holds _ _ _ (resQ Φ fun rs => rs = [.int (rNew0 num den), .int (rNew1 num den), .int (rNew2 num den)])
    rw [t22]
    simp only [rNewP, Bool.and_eq_true, ii_iff] at hp
    rw [eql_d]
    simp only [rNew0, rNew1, rNew2]
    by_cases c0 : den = 0
    · rw [decide_eq_true c0]
      simp [c0]
    · rw [decide_eq_false c0]
      have s1 : oneP num = true := by unfold oneP; rw [ii_iff]; omega
      have s2 : oneP den = true := by unfold oneP; rw [ii_iff]; omega
      have n0 := ab_nonneg num
      have d0 : 0 < ab den := by unfold ab; split <;> omega
      have n1 : ab num < 18446744073709551616 := by unfold ab; split <;> omega
      have d1 : ab den < 18446744073709551616 := by unfold ab; split <;> omega
      rw [s1, s2]
      simp only [one0, one1, one2]
      obtain ⟨q0, q1, q2, q3⟩ := low_words (!(decide (num < 0) == decide (den < 0))) false n0 (by omega) d0 (by omega)
      rw [show ab num / 18446744073709551616 = 0 by omega, show ab num % 18446744073709551616 = ab num by omega, show ab den / 18446744073709551616 = 0 by omega, show ab den % 18446744073709551616 = ab den by omega] at q0 q1 q2 q3
      rw [q0, q1, q2, q3]
      have es : sv (!(decide (num < 0) == decide (den < 0))) (ab num) = if den < 0 then -num else num := by
        unfold sv ab
        by_cases h1 : num < 0 <;> by_cases h2 : den < 0 <;> simp [h1, h2]
      rw [es]
      simp [c0]

theorem c27 : CT Tryd.prog sigs Φ 27 :=
  ct_of [23, 53, 54, 55, 56] [39, 74, 83, 84] noLoop 100 mixed rfl Tryd.func27 (by kernel_rfl) (forall_cons c23 (forall_cons c53 (forall_cons c54 (forall_cons c55 (forall_cons c56 forall_nil))))) fun l0 hl0 hp => by
    obtain ⟨an, l1, rfl, hl1⟩ := canon_int hl0
    obtain ⟨ad, l2, rfl, hl2⟩ := canon_int hl1
    obtain ⟨bn, l3, rfl, hl3⟩ := canon_int hl2
    obtain ⟨bd, l4, rfl, hl4⟩ := canon_int hl3
    cases canon_nil hl4
    clear hl4 hl3 hl2 hl1 hl0
    show T.holds _ _ _ (resQ Φ fun rs => rs = [.int (Cmp0 an ad bn bd)])
    rw [t27]
    simp only [Val0, Cmp0]
    by_cases v1 : vF an ad = true
    · by_cases v2 : vF bn bd = true
      · have v1' := v1
        have v2' := v2
        rw [vF_iff] at v1' v2'
        have A := tim_bd (a := an) (b := bd) (by omega) (by omega)
        have B := tim_bd (a := bn) (b := ad) (by omega) (by omega)
        have p1 : proP an bd = true := by unfold proP; rw [Bool.and_eq_true, ii_iff, ii_iff]; omega
        have p2 : proP bn ad = true := by unfold proP; rw [Bool.and_eq_true, ii_iff, ii_iff]; omega
        have p3 : cmwP (pro0 an bd) (pro1 an bd) (pro2 an bd) (pro0 bn ad) (pro1 bn ad) (pro2 bn ad) = true := by
          unfold cmwP
          simp only [pro1, pro2, Bool.and_eq_true, uu_iff]
          omega
        have p4 : cmwP (pro0 bn ad) (pro1 bn ad) (pro2 bn ad) (pro0 an bd) (pro1 an bd) (pro2 an bd) = true := by
          unfold cmwP
          simp only [pro1, pro2, Bool.and_eq_true, uu_iff]
          omega
        rw [v1, v2, p1, p2, p3, p4]
        simp only [cmw0, pro1, pro2, mg_split, sgn0, ci0, eql_d, lss_d]
        rw [ab_pos (n := ad) (by omega), ab_pos (n := bd) (by omega)]
        have ka : an < 0 → an * bd < 0 := fun h => Int.mul_neg_of_neg_of_pos h (by omega)
        have kb : bn < 0 → bn * ad < 0 := fun h => Int.mul_neg_of_neg_of_pos h (by omega)
        have la : 0 < an → 0 < an * bd := fun h => Int.mul_pos h (by omega)
        have lb : 0 < bn → 0 < bn * ad := fun h => Int.mul_pos h (by omega)
        have za : an = 0 → an * bd = 0 := fun h => by rw [h, Int.zero_mul]
        have zb : bn = 0 → bn * ad = 0 := fun h => by rw [h, Int.zero_mul]
        have ea : ab an * bd = ab (an * bd) := by
          unfold ab
          by_cases h : an < 0
          · rw [if_pos h, if_pos (ka h), Int.neg_mul]
          · rw [if_neg h, if_neg (by omega)]
        have eb : ab bn * ad = ab (bn * ad) := by
          unfold ab
          by_cases h : bn < 0
          · rw [if_pos h, if_pos (kb h), Int.neg_mul]
          · rw [if_neg h, if_neg (by omega)]
        rw [ea, eb]
        generalize an * bd = x at *
        generalize bn * ad = y at *
        unfold cmp3 ab
        by_cases h1 : an < 0 <;> by_cases h2 : bn < 0 <;> by_cases h3 : 0 < an <;> by_cases h4 : 0 < bn <;> simp [h1, h2, h3, h4] <;> (repeat' split) <;> omega
      · have v2' : vF bn bd = false := by simpa using v2
        rw [v1, v2']
        rfl
    · have v1' : vF an ad = false := by simpa using v1
      rw [v1']
      rfl

theorem c29 : CT Tryd.prog sigs Φ 29 :=
  ct_of [23, 58] [39, 74, 83, 84] noLoop 100 mixed rfl Tryd.func29 (by kernel_rfl) (forall_cons c23 (forall_cons c58 forall_nil)) fun l0 hl0 hp => by
    obtain ⟨n, l1, rfl, hl1⟩ := canon_int hl0
    obtain ⟨d, l2, rfl, hl2⟩ := canon_int hl1
    cases canon_nil hl2
    clear hl2 hl1 hl0
    show T.holds _ _ _ (resQ Φ fun rs => rs = [.int (Flo0 n d)])
    rw [t29]
    simp only [Val0, Flo0]
    by_cases v1 : vF n d = true
    · have v1' := v1
      rw [vF_iff] at v1'
      have fp : floP n d = true := by
        unfold floP
        simp only [Bool.and_eq_true, decide_eq_true_eq, BD]
        omega
      rw [v1, fp]
      rfl
    · have v1' : vF n d = false := by simpa using v1
      rw [v1']
      rfl


theorem quo_nn {a b : Int} (h1 : 0 ≤ a) (h2 : a ≤ 9223372036854775807) (hb : 0 < b) : arI .quo .i64 a b = a / b := by
  have e : a.tdiv b = a / b := Int.tdiv_eq_ediv_of_nonneg h1
  have b1 : 0 ≤ a / b := Int.ediv_nonneg h1 (by omega)
  have b2 : a / b ≤ a := Int.ediv_le_self _ h1
  rw [ar_quo (by omega) (by omega), e]
theorem rem_nn {a b : Int} (k : IntKind) (h1 : 0 ≤ a) : arI .rem k a b = a % b := Int.tmod_eq_emod_of_nonneg h1
theorem rp_eq {N d : Int} (h0 : 0 ≤ N) (hd : 0 < d) : rp N d = if N % d < d - N % d then N / d else N / d + 1 := by
  unfold rp
  have r0 := Int.emod_nonneg N (show d ≠ 0 by omega)
  have r1 := Int.emod_lt_of_pos N hd
  have e : N = d * (N / d) + N % d := (Int.mul_ediv_add_emod N d).symm
  generalize N % d = r at *
  generalize N / d = q at *
  subst e
  split
  · exact (div_uniq (r := 2 * r + d) (by omega) (by omega) (by rw [Int.mul_add, ← Int.mul_assoc]; omega)).1
  · refine (div_uniq (r := 2 * r - d) (by omega) (by omega) ?_).1
    rw [Int.mul_add (2 * d), Int.mul_add 2, ← Int.mul_assoc]
    omega

theorem c30 : CT Tryd.prog sigs Φ 30 :=
  ct_of [23, 47] [39, 74, 83, 84] noLoop 100 mixed rfl Tryd.func30 (by kernel_rfl) (forall_cons c23 (forall_cons c47 forall_nil)) fun l0 hl0 hp => by
    obtain ⟨n, l1, rfl, hl1⟩ := canon_int hl0
    obtain ⟨d, l2, rfl, hl2⟩ := canon_int hl1
    cases canon_nil hl2
    clear hl2 hl1 hl0
    show T.holds _ _ _ (resQ Φ fun rs => rs = [.int (Rou0 n d)])
    rw [t30]
    simp only [Val0, Rou0]
    by_cases v1 : vF n d = true
    · have v1' := v1
      rw [vF_iff] at v1'
      have sp : sizP n = true := by unfold sizP; rw [ii_iff]; omega
      have e1 : (!(cmpI .eql d 0)) = true := by rw [eql_d, decide_eq_false (by omega)]; rfl
      have n0 := ab_nonneg n
      have n1 : ab n < 1000000000000000000 := by unfold ab; split <;> omega
      rw [v1, sp, e1]
      simp only [siz0, lss_d]
      rw [wrap_i64 (n := ab n) (by omega) (by omega), rem_nn .i64 n0, quo_nn n0 (by omega) (by omega)]
      have r0 := Int.emod_nonneg (ab n) (show d ≠ 0 by omega)
      have r1 := Int.emod_lt_of_pos (ab n) (show 0 < d by omega)
      have q0 : 0 ≤ ab n / d := Int.ediv_nonneg n0 (by omega)
      have q1 : ab n / d ≤ ab n := Int.ediv_le_self _ n0
      have er := rp_eq (d := d) n0 (by omega)
      rw [ar_sub (a := d) (by omega) (by omega), ar_add (by omega) (by omega), ar_sub (a := 0) (by omega) (by omega), ar_sub (a := 0) (by omega) (by omega)]
      have en : rnd n d = if n < 0 then -rp (ab n) d else rp (ab n) d := by
        unfold rnd ab
        split <;> rfl
      rw [if_pos trivial, en, er]
      generalize ab n % d = r at *
      generalize ab n / d = q at *
      by_cases c1 : r < d - r <;> by_cases c2 : n < 0 <;> simp [c1, c2]
    · have v1' : vF n d = false := by simpa using v1
      rw [v1']
      rfl

end Go.Proofs.YtkmffnjmiechfaaDoor
