/- The vector seat: loops, greatest common divisors and the examples. -/
import Derived.Test.YtoffcodhcbgbdaaV2
namespace Go.Proofs.Ytoffcodhcbgbdaa
open Go.Sx
set_option linter.unusedVariables false
set_option linter.unusedSimpArgs false
set_option maxRecDepth 100000

theorem t39 : fnT (cfgOf Try.prog sigs [] [41, 51, 53, 52] (fun f r => if f = 39 ∧ r = 1 then some ⟨[(0, .int .i64), (1, .int .i64)], []⟩ else none)) 39 Try.f39 (bodyOf Try.f39) ⟨[i1, i1], [i1]⟩ 100 =
  (.loop [(.var 0), (.var 1)]
   (.ite (.cmp .lss (.int 0) (.var 3))
    (.need (.c (.not (.cmp .eql (.var 3) (.int 0))))
    (.leaf (.cont 0 [(.var 3), (.ar .rem .i64 (.var 2) (.var 3))])))
    (.leaf (.res [(.toI (.var 2))])))) := by kernel_rfl

section
variable {Φ' : Ctx} {ρ : List Sc}
theorem den_k (a b : Sc) : (E.var ρ.length).den Φ' (ρ ++ [a, b]) = a := by
  show (ρ ++ [a, b]).getD ρ.length (.int 0) = a
  simp
theorem den_k1 (a b : Sc) : (E.var (ρ.length + 1)).den Φ' (ρ ++ [a, b]) = b := by
  show (ρ ++ [a, b]).getD (ρ.length + 1) (.int 0) = b
  simp
/-- Euclid's loop, with signs. -/
theorem gcd_iter {A : T} {Q : Out → List Sc → Prop} : ∀ (m : Nat) (x y : Int), y.natAbs ≤ m →
    (∀ g : Int, g.natAbs = Nat.gcd x.natAbs y.natAbs → ∀ it, A.holds Φ' (ρ ++ [.int g, .int 0]) (loopQ it Φ' Q)) →
    ∃ n, iterH (fun ρ' Q' => (T.ite (.cmp .eql (.var (ρ.length + 1)) (.int 0)) A (.leaf (.cont 0 [.var (ρ.length + 1), .ar .rem .i64 (.var ρ.length) (.var (ρ.length + 1))]))).holds Φ' ρ' Q') Φ' ρ Q n [.int x, .int y] := by
  intro m
  induction m with
  | zero =>
    intro x y hy h
    have h0 : y = 0 := by omega
    subst h0
    refine ⟨1, ?_⟩
    show cond (cmpI .eql ((E.var (ρ.length + 1)).den Φ' (ρ ++ [.int x, .int 0])).toInt 0) _ _
    rw [den_k1]
    exact h x (by simp) _
  | succ m ih =>
    intro x y hy h
    by_cases h0 : y = 0
    · subst h0
      refine ⟨1, ?_⟩
      show cond (cmpI .eql ((E.var (ρ.length + 1)).den Φ' (ρ ++ [.int x, .int 0])).toInt 0) _ _
      rw [den_k1]
      exact h x (by simp) _
    · have hp : 0 < y.natAbs := by omega
      have hr : (x.tmod y).natAbs = x.natAbs % y.natAbs := Int.natAbs_tmod x y
      have hlt := Nat.mod_lt x.natAbs hp
      obtain ⟨n, hn⟩ := ih y (x.tmod y) (by omega) (by
        intro g hg it
        refine h g ?_ it
        rw [hg, hr, Nat.gcd_comm x.natAbs, Nat.gcd_rec y.natAbs x.natAbs, Nat.gcd_comm])
      refine ⟨n + 1, ?_⟩
      show cond (cmpI .eql ((E.var (ρ.length + 1)).den Φ' (ρ ++ [.int x, .int y])).toInt 0) _
        (iterH _ Φ' ρ Q n [(E.var (ρ.length + 1)).den Φ' (ρ ++ [.int x, .int y]), .int (arI .rem .i64 ((E.var ρ.length).den Φ' (ρ ++ [.int x, .int y])).toInt ((E.var (ρ.length + 1)).den Φ' (ρ ++ [.int x, .int y])).toInt)])
      rw [den_k1, den_k]
      show cond (decide (y = 0)) _ _
      rw [decide_eq_false h0]
      exact hn
theorem gcd_loop {A : T} {Q : Out → List Sc → Prop} {a b : E} {k : Nat} {x y : Int} (hk : ρ.length = k) (ha : a.den Φ' ρ = .int x) (hb : b.den Φ' ρ = .int y)
    (h : ∀ g : Int, g.natAbs = Nat.gcd x.natAbs y.natAbs → ∀ it, A.holds Φ' (ρ ++ [.int g, .int 0]) (loopQ it Φ' Q)) :
    (T.loop [a, b] (T.ite (.cmp .eql (.var (k + 1)) (.int 0)) A (.leaf (.cont 0 [.var (k + 1), .ar .rem .i64 (.var k) (.var (k + 1))])))).holds Φ' ρ Q := by
  subst hk
  have := gcd_iter (Φ' := Φ') (ρ := ρ) (A := A) (Q := Q) y.natAbs x y (Nat.le_refl _) h
  show ∃ n, iterH _ Φ' ρ Q n [a.den Φ' ρ, b.den Φ' ρ]
  rw [ha, hb]
  exact this
end
theorem k3_le {x y z : Int} (h : in3 x y z = true) (h0 : ¬ (x = 0 ∧ y = 0 ∧ z = 0)) : 1 ≤ k3 x y z ∧ k3 x y z ≤ 1000000 := by
  simp only [in3, Bool.and_eq_true, inC_iff] at h
  have d1 : Nat.gcd (Nat.gcd x.natAbs y.natAbs) z.natAbs ∣ x.natAbs := Nat.dvd_trans (Nat.gcd_dvd_left _ _) (Nat.gcd_dvd_left _ _)
  have d2 : Nat.gcd (Nat.gcd x.natAbs y.natAbs) z.natAbs ∣ y.natAbs := Nat.dvd_trans (Nat.gcd_dvd_left _ _) (Nat.gcd_dvd_right _ _)
  have d3 : Nat.gcd (Nat.gcd x.natAbs y.natAbs) z.natAbs ∣ z.natAbs := Nat.gcd_dvd_right _ _
  unfold k3
  have key : ∀ w : Int, w ≠ 0 → -1000000 ≤ w → w ≤ 1000000 → Nat.gcd (Nat.gcd x.natAbs y.natAbs) z.natAbs ∣ w.natAbs → 1 ≤ ((Nat.gcd (Nat.gcd x.natAbs y.natAbs) z.natAbs : Nat) : Int) ∧ ((Nat.gcd (Nat.gcd x.natAbs y.natAbs) z.natAbs : Nat) : Int) ≤ 1000000 := by
    intro w hw l1 l2 hd
    have hp : 0 < w.natAbs := by omega
    have h1 := Nat.le_of_dvd hp hd
    have h2 := Nat.pos_of_dvd_of_pos hd hp
    omega
  by_cases hx : x = 0
  · by_cases hy : y = 0
    · exact key z (by intro hz; exact h0 ⟨hx, hy, hz⟩) (by omega) (by omega) d3
    · exact key y hy (by omega) (by omega) d2
  · exact key x hx (by omega) (by omega) d1
theorem tdiv_bd {x k : Int} {B : Int} (h1 : -B ≤ x) (h2 : x ≤ B) : -B ≤ x.tdiv k ∧ x.tdiv k ≤ B := by
  have h : (x.tdiv k).natAbs ≤ x.natAbs := by rw [Int.natAbs_tdiv]; exact Nat.div_le_self _ _
  omega
theorem quo_k {x k : Int} (h1 : -1000000 ≤ x) (h2 : x ≤ 1000000) : arI .quo .i64 x k = x.tdiv k := by
  have := tdiv_bd (k := k) (B := 1000000) h1 h2
  exact ar_quo (by omega) (by omega)
theorem mx_abs {g k : Int} (h : g.natAbs = k.natAbs) (hk : 0 ≤ k) (hb : k ≤ 1000000) : mxI g (arI .sub .i64 0 g) = k := by
  rw [ar_sub (by omega) (by omega)]
  unfold mxI
  split <;> omega

theorem c39 : CT Try.prog sigs Φ 39 :=
  ct_of [] [41, 51, 53, 52] (fun f r => if f = 39 ∧ r = 1 then some ⟨[(0, .int .i64), (1, .int .i64)], []⟩ else none) 100 mixed rfl Try.func39 (by kernel_rfl) forall_nil fun l0 hl0 hp => by
    obtain ⟨a, l1, rfl, hl1⟩ := canon_int hl0
    obtain ⟨b, l2, rfl, hl2⟩ := canon_int hl1
    cases canon_nil hl2
    clear hl2 hl1 hl0
    have hp : dvsP a b = true := hp
    show T.holds _ _ _ (resQ Φ fun rs => rs = [.int (dvs0 a b)])
    rw [t39]
    simp only [dvsP, Bool.and_eq_true, decide_eq_true_eq] at hp
    show ∃ n, iterH _ Φ [.int a, .int b] (resQ Φ fun rs => rs = [.int (dvs0 a b)]) n [.int a, .int b]
    have key : ∀ (m : Nat) (x y : Int), 0 ≤ x → 0 ≤ y → y.natAbs ≤ m → dvs0 x y = dvs0 a b →
        ∃ n, iterH (fun ρ' Q' => (T.ite (.cmp .lss (.int 0) (.var 3)) (.need (.c (.not (.cmp .eql (.var 3) (.int 0)))) (.leaf (.cont 0 [(.var 3), (.ar .rem .i64 (.var 2) (.var 3))]))) (.leaf (.res [(.toI (.var 2))]))).holds Φ ρ' Q') Φ [.int a, .int b] (resQ Φ fun rs => rs = [.int (dvs0 a b)]) n [.int x, .int y] := by
      intro m
      induction m with
      | zero =>
        intro x y hx hy hm he
        have h0 : y = 0 := by omega
        subst h0
        refine ⟨1, ?_⟩
        show [Sc.int x] = [Sc.int (dvs0 a b)]
        rw [← he]
        simp only [dvs0, Int.natAbs_zero, Nat.gcd_zero_right]
        rw [Int.natAbs_of_nonneg hx]
      | succ m ih =>
        intro x y hx hy hm he
        by_cases h0 : y = 0
        · subst h0
          refine ⟨1, ?_⟩
          show [Sc.int x] = [Sc.int (dvs0 a b)]
          rw [← he]
          simp only [dvs0, Int.natAbs_zero, Nat.gcd_zero_right]
          rw [Int.natAbs_of_nonneg hx]
        · have hq : 0 < y.natAbs := by omega
          have hr : (x.tmod y).natAbs = x.natAbs % y.natAbs := Int.natAbs_tmod x y
          have hlt := Nat.mod_lt x.natAbs hq
          obtain ⟨n, hn⟩ := ih y (x.tmod y) hy (Int.tmod_nonneg y hx) (by omega) (by
            rw [← he]
            show ((Nat.gcd y.natAbs (x.tmod y).natAbs : Nat) : Int) = ((Nat.gcd x.natAbs y.natAbs : Nat) : Int)
            rw [hr, Nat.gcd_comm x.natAbs, Nat.gcd_rec y.natAbs x.natAbs, Nat.gcd_comm])
          refine ⟨n + 1, ?_⟩
          show cond (cmpI .lss 0 y) (cond (!(cmpI .eql y 0)) (iterH _ Φ [.int a, .int b] _ n [.int y, .int (x.tmod y)]) False) _
          rw [lss_d, eql_d, decide_eq_true (p := 0 < y) (by omega), decide_eq_false h0]
          exact hn
    exact key b.natAbs a b hp.1 hp.2 (Nat.le_refl _) rfl

theorem c13 : CT Try.prog sigs Φ 13 :=
  ct_of [32, 36, 37] [41, 51, 53, 52] (fun f r => if f = 13 ∧ r = 11 then some ⟨[(7, .int .i64), (9, .int .i64)], []⟩ else none) 100 mixed rfl Try.func13 (by kernel_rfl) (forall_cons c32 (forall_cons c36 (forall_cons c37 forall_nil))) fun l0 hl0 hp => by
    obtain ⟨x, l1, rfl, hl1⟩ := canon_int hl0
    obtain ⟨y, l2, rfl, hl2⟩ := canon_int hl1
    obtain ⟨z, l3, rfl, hl3⟩ := canon_int hl2
    cases canon_nil hl3
    clear hl3 hl2 hl1 hl0 hp
    show T.holds _ _ _ (resQ Φ fun rs => rs = [.int (prm0 x y z), .int (prm1 x y z), .int (prm2 x y z), .int (prm3 x y z), .int (prm4 x y z)])
    rw [t13]
    generalize hR : [Sc.int (prm0 x y z), .int (prm1 x y z), .int (prm2 x y z), .int (prm3 x y z), .int (prm4 x y z)] = R
    show cond (cmpI .eql (chk0 x y z) 0)
      (cond (cmpI .eql x 0 && (cmpI .eql y 0 && cmpI .eql z 0)) ([Sc.int 0, .int 0, .int 0, .int 0, .int 1] = R) (T.holds Φ (.loop _ _) [.int x, .int y, .int z] (resQ Φ fun rs => rs = R)))
      ([Sc.int 0, .int 0, .int 0, .int 0, .int (chk0 x y z)] = R)
    by_cases h : in3 x y z = true
    · have hc : chk0 x y z = 0 := if_pos h
      rw [hc]
      show cond (cmpI .eql x 0 && (cmpI .eql y 0 && cmpI .eql z 0)) _ _
      by_cases h0 : x = 0 ∧ y = 0 ∧ z = 0
      · obtain ⟨rfl, rfl, rfl⟩ := h0
        rw [← hR]
        show [Sc.int 0, .int 0, .int 0, .int 0, .int 1] = [Sc.int (prm0 0 0 0), .int (prm1 0 0 0), .int (prm2 0 0 0), .int (prm3 0 0 0), .int (prm4 0 0 0)]
        kernel_rfl
      · have hk := k3_le h h0
        have hb : (cmpI .eql x 0 && (cmpI .eql y 0 && cmpI .eql z 0)) = false := by
          simp only [eql_d, ← Bool.decide_and, decide_eq_false_iff_not]
          exact h0
        rw [hb]
        refine gcd_loop (k := 3) (x := 0) (y := x) rfl rfl rfl fun g1 hg1 _ => ?_
        refine gcd_loop (k := 5) (x := g1) (y := y) rfl rfl rfl fun g2 hg2 _ => ?_
        refine gcd_loop (k := 7) (x := g2) (y := z) rfl rfl rfl fun g3 hg3 _ => ?_
        have hg : g3.natAbs = (k3 x y z).natAbs := by
          rw [hg3, hg2, hg1]
          simp [k3]
        have hm : mxI g3 (arI .sub .i64 0 g3) = k3 x y z := mx_abs hg (by omega) hk.2
        have hn : (!(cmpI .eql (k3 x y z) 0)) = true := by
          rw [eql_d, decide_eq_false (by omega)]; rfl
        show cond (!(cmpI .eql (mxI g3 (arI .sub .i64 0 g3)) 0)) (cond (!(cmpI .eql (mxI g3 (arI .sub .i64 0 g3)) 0)) (cond (!(cmpI .eql (mxI g3 (arI .sub .i64 0 g3)) 0))
          ([Sc.int (arI .quo .i64 x (mxI g3 (arI .sub .i64 0 g3))), .int (arI .quo .i64 y (mxI g3 (arI .sub .i64 0 g3))), .int (arI .quo .i64 z (mxI g3 (arI .sub .i64 0 g3))), .int (mxI g3 (arI .sub .i64 0 g3)), .int 0] = R) False) False) False
        rw [hm, hn]
        show _ = _
        have hr := h
        simp only [in3, Bool.and_eq_true, inC_iff] at hr
        rw [quo_k (by omega) (by omega), quo_k (by omega) (by omega), quo_k (by omega) (by omega), ← hR]
        simp only [prm0, prm1, prm2, prm3, prm4, if_pos h]
        rw [if_neg (by omega)]
    · have hc : chk0 x y z = 6 := if_neg h
      rw [hc, ← hR]
      show [Sc.int 0, .int 0, .int 0, .int 0, .int 6] = _
      simp only [prm0, prm1, prm2, prm3, prm4, if_neg h]

theorem c15 : CT Try.prog sigs Φ 15 :=
  ct_of [40, 39] [41, 51, 53, 52] noLoop 100 mixed rfl Try.func15 (by kernel_rfl) (forall_cons c40 (forall_cons c39 forall_nil)) fun l0 hl0 hp => by
    obtain ⟨x, l1, rfl, hl1⟩ := canon_int hl0
    obtain ⟨y, l2, rfl, hl2⟩ := canon_int hl1
    obtain ⟨z, l3, rfl, hl3⟩ := canon_int hl2
    cases canon_nil hl3
    clear hl3 hl2 hl1 hl0
    have hp : rPrmP x y z = true := hp
    show T.holds _ _ _ (resQ Φ fun rs => rs = [.int (rPrm0 x y z), .int (rPrm1 x y z), .int (rPrm2 x y z), .int (rPrm3 x y z)])
    rw [t15]
    simp only [rPrmP, Bool.and_eq_true, decide_eq_true_eq] at hp
    obtain ⟨h, hk⟩ := hp
    have hr := h
    simp only [in3, Bool.and_eq_true, inC_iff] at hr
    have p1 : ablP x = true := by simp only [ablP, inC_iff]; omega
    have p2 : ablP y = true := by simp only [ablP, inC_iff]; omega
    have p3 : ablP z = true := by simp only [ablP, inC_iff]; omega
    have ab : ∀ n : Int, (abl0 n).natAbs = n.natAbs := by intro n; simp only [abl0]; split <;> omega
    have q0 : ∀ n : Int, 0 ≤ abl0 n := by intro n; simp only [abl0]; split <;> omega
    have p4 : dvsP (abl0 x) (abl0 y) = true := by simp only [dvsP, Bool.and_eq_true, decide_eq_true_eq]; exact ⟨q0 x, q0 y⟩
    have p5 : dvsP (dvs0 (abl0 x) (abl0 y)) (abl0 z) = true := by
      simp only [dvsP, Bool.and_eq_true, decide_eq_true_eq]; exact ⟨by simp only [dvs0]; omega, q0 z⟩
    have e : dvs0 (dvs0 (abl0 x) (abl0 y)) (abl0 z) = k3 x y z := by simp only [dvs0, k3, ab, Int.natAbs_natCast]
    rw [p1, p2, p3, p4, p5, e]
    have hn : (!(cmpI .eql (k3 x y z) 0)) = true := by
      rw [eql_d, decide_eq_false hk]; rfl
    rw [hn, quo_k (by omega) (by omega), quo_k (by omega) (by omega), quo_k (by omega) (by omega)]
    rfl

theorem c12 : CT Try.prog sigs Φ 12 :=
  ct_of [24, 25, 13, 16, 21, 17, 23] [41, 51, 53, 52] noLoop 100 mixed rfl Try.func12 (by kernel_rfl) (forall_cons c24 (forall_cons c25 (forall_cons c13 (forall_cons c16 (forall_cons c21 (forall_cons c17 (forall_cons c23 forall_nil))))))) fun l0 hl0 hp => by

    cases canon_nil hl0
    clear hl0
    show T.holds _ _ _ (resQ Φ fun rs => rs = [.bool awk0])
    rw [t12]
    refine Eq.mp (α := [Sc.bool true] = [Sc.bool true]) ?_ rfl
    kernel_rfl

end Go.Proofs.Ytoffcodhcbgbdaa
