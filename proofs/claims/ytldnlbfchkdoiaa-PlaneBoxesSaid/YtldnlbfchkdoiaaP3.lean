/- The plane seat: contracts, the second part. -/
import Derived.Test.YtldnlbfchkdoiaaP2
namespace Go.Proofs.Ytldnlbfchkdoiaa
open Go.Sx
set_option linter.unusedVariables false
set_option linter.unusedSimpArgs false
set_option maxRecDepth 100000


section
variable {Φ' : Ctx} {ρ : List Sc}
theorem den_k (a b : Sc) : (E.var ρ.length).den Φ' (ρ ++ [a, b]) = a := by
  show (ρ ++ [a, b]).getD ρ.length (.int 0) = a
  simp
theorem den_k1 (a b : Sc) : (E.var (ρ.length + 1)).den Φ' (ρ ++ [a, b]) = b := by
  show (ρ ++ [a, b]).getD (ρ.length + 1) (.int 0) = b
  simp
/-- Euclid's loop, with signs. -/
theorem gcd_iter {A : T} {Q : Out → List Sc → Prop} : ∀ (m : Nat) (x y : Int), y.natAbs ≤ m →
    (∀ g : Int, g.natAbs = Nat.gcd x.natAbs y.natAbs → ∀ it, A.holds Φ' (ρ ++ [.int g, .int 0]) (loopQ it Φ' Q)) →
    ∃ n, iterH (fun ρ' Q' => (T.ite (.cmp .eql (.var (ρ.length + 1)) (.int 0)) A (.leaf (.cont 0 [.var (ρ.length + 1), .ar .rem .i64 (.var ρ.length) (.var (ρ.length + 1))]))).holds Φ' ρ' Q') Φ' ρ Q n [.int x, .int y] := by
  intro m
  induction m with
  | zero =>
    intro x y hy h
    have h0 : y = 0 := by omega
    subst h0
    refine ⟨1, ?_⟩
    show cond (cmpI .eql ((E.var (ρ.length + 1)).den Φ' (ρ ++ [.int x, .int 0])).toInt 0) _ _
    rw [den_k1]
    exact h x (by simp) _
  | succ m ih =>
    intro x y hy h
    by_cases h0 : y = 0
    · subst h0
      refine ⟨1, ?_⟩
      show cond (cmpI .eql ((E.var (ρ.length + 1)).den Φ' (ρ ++ [.int x, .int 0])).toInt 0) _ _
      rw [den_k1]
      exact h x (by simp) _
    · have hp : 0 < y.natAbs := by omega
      have hr : (x.tmod y).natAbs = x.natAbs % y.natAbs := Int.natAbs_tmod x y
      have hlt := Nat.mod_lt x.natAbs hp
      obtain ⟨n, hn⟩ := ih y (x.tmod y) (by omega) (by
        intro g hg it
        refine h g ?_ it
        rw [hg, hr, Nat.gcd_comm x.natAbs, Nat.gcd_rec y.natAbs x.natAbs, Nat.gcd_comm])
      refine ⟨n + 1, ?_⟩
      show cond (cmpI .eql ((E.var (ρ.length + 1)).den Φ' (ρ ++ [.int x, .int y])).toInt 0) _
        (iterH _ Φ' ρ Q n [(E.var (ρ.length + 1)).den Φ' (ρ ++ [.int x, .int y]), .int (arI .rem .i64 ((E.var ρ.length).den Φ' (ρ ++ [.int x, .int y])).toInt ((E.var (ρ.length + 1)).den Φ' (ρ ++ [.int x, .int y])).toInt)])
      rw [den_k1, den_k]
      show cond (decide (y = 0)) _ _
      rw [decide_eq_false h0]
      exact hn
theorem gcd_loop {A : T} {Q : Out → List Sc → Prop} {a b : E} {k : Nat} {x y : Int} (hk : ρ.length = k) (ha : a.den Φ' ρ = .int x) (hb : b.den Φ' ρ = .int y)
    (h : ∀ g : Int, g.natAbs = Nat.gcd x.natAbs y.natAbs → ∀ it, A.holds Φ' (ρ ++ [.int g, .int 0]) (loopQ it Φ' Q)) :
    (T.loop [a, b] (T.ite (.cmp .eql (.var (k + 1)) (.int 0)) A (.leaf (.cont 0 [.var (k + 1), .ar .rem .i64 (.var k) (.var (k + 1))])))).holds Φ' ρ Q := by
  subst hk
  have := gcd_iter (Φ' := Φ') (ρ := ρ) (A := A) (Q := Q) y.natAbs x y (Nat.le_refl _) h
  show ∃ n, iterH _ Φ' ρ Q n [a.den Φ' ρ, b.den Φ' ρ]
  rw [ha, hb]
  exact this
end

theorem k3_le {x y z : Int} (hx : -1000 ≤ x ∧ x ≤ 1000) (hy : -1000 ≤ y ∧ y ≤ 1000) (hz : -1000 ≤ z ∧ z ≤ 1000) (h0 : ¬ (x = 0 ∧ y = 0 ∧ z = 0)) : 1 ≤ k3 x y z ∧ k3 x y z ≤ 1000 := by
  have d1 : Nat.gcd (Nat.gcd x.natAbs y.natAbs) z.natAbs ∣ x.natAbs := Nat.dvd_trans (Nat.gcd_dvd_left _ _) (Nat.gcd_dvd_left _ _)
  have d2 : Nat.gcd (Nat.gcd x.natAbs y.natAbs) z.natAbs ∣ y.natAbs := Nat.dvd_trans (Nat.gcd_dvd_left _ _) (Nat.gcd_dvd_right _ _)
  have d3 : Nat.gcd (Nat.gcd x.natAbs y.natAbs) z.natAbs ∣ z.natAbs := Nat.gcd_dvd_right _ _
  unfold k3
  have key : ∀ w : Int, w ≠ 0 → -1000 ≤ w → w ≤ 1000 → Nat.gcd (Nat.gcd x.natAbs y.natAbs) z.natAbs ∣ w.natAbs → 1 ≤ ((Nat.gcd (Nat.gcd x.natAbs y.natAbs) z.natAbs : Nat) : Int) ∧ ((Nat.gcd (Nat.gcd x.natAbs y.natAbs) z.natAbs : Nat) : Int) ≤ 1000 := by
    intro w hw l1 l2 hd
    have hp : 0 < w.natAbs := by omega
    have h1 := Nat.le_of_dvd hp hd
    have h2 := Nat.pos_of_dvd_of_pos hd hp
    omega
  by_cases hx0 : x = 0
  · by_cases hy0 : y = 0
    · exact key z (by intro hz; exact h0 ⟨hx0, hy0, hz⟩) (by omega) (by omega) d3
    · exact key y hy0 (by omega) (by omega) d2
  · exact key x hx0 (by omega) (by omega) d1
theorem kH {a b c d : Int} (h : chkH a b c d = 0) : 1 ≤ k3 a b c ∧ k3 a b c ≤ 1000 := by
  have h' := chkH_ok.1 h
  have hi := h'.1
  simp only [inH_iff] at hi
  exact k3_le hi.1 hi.2.1 hi.2.2.1 h'.2
theorem quo_k {x k : Int} (h1 : -1000 ≤ x) (h2 : x ≤ 1000) : arI .quo .i64 x k = x.tdiv k := by
  have := tdiv_bd (k := k) (B := 1000) h1 h2
  exact ar_quo (by omega) (by omega)
theorem mx_abs {g k : Int} (h : g.natAbs = k.natAbs) (hk : 0 ≤ k) (hb : k ≤ 1000) : mxI g (arI .sub .i64 0 g) = k := by
  rw [ar_sub (by omega) (by omega)]
  unfold mxI
  split <;> omega
theorem ediv_bd {a b B : Int} (hb : 0 < b) (h1 : -B ≤ a) (h2 : a ≤ B) : -B - 1 ≤ a / b ∧ a / b ≤ B := by
  have t := tdiv_bd (k := b) h1 h2
  have q1 := Int.tdiv_eq_ediv (a := a) (b := b)
  by_cases c : 0 ≤ a ∨ b ∣ a
  · rw [if_pos c] at q1
    omega
  · rw [if_neg c, Int.sign_eq_one_of_pos hb] at q1
    omega
theorem lst_bd {n lo hi : Int} (hn : -1000 ≤ n ∧ n ≤ 1000) (hl : -1000000 ≤ lo ∧ lo ≤ 1000000) (hh : -1000000 ≤ hi ∧ hi ≤ 1000000) : -1000001000 ≤ lst n lo hi ∧ lst n lo hi ≤ 1000001000 := by
  have m1 := mul_bd (a := n) (b := lo + 1) (A := 1000) (B := 1000001) (by omega) (by omega) (by omega) (by omega)
  have m2 := mul_bd (a := n) (b := hi - 1) (A := 1000) (B := 1000001) (by omega) (by omega) (by omega) (by omega)
  unfold lst
  split <;> omega
theorem six {dir : Int} (h1 : 0 ≤ dir) (h2 : dir ≤ 5) : dir = 0 ∨ dir = 1 ∨ dir = 2 ∨ dir = 3 ∨ dir = 4 ∨ dir = 5 := by omega

theorem c43 : CT Try.prog sigs Φ 43 :=
  ct_of [] [41, 51] noLoop 100 mixed rfl Try.func43 (by kernel_rfl) forall_nil fun l0 hl0 hp => by
    obtain ⟨n, l1, rfl, hl1⟩ := canon_int hl0
    obtain ⟨lo, l2, rfl, hl2⟩ := canon_int hl1
    obtain ⟨hi, l3, rfl, hl3⟩ := canon_int hl2
    cases canon_nil hl3
    clear hl3 hl2 hl1 hl0
    have hp : rlstP n lo hi = true := hp
    show T.holds _ _ _ (resQ Φ fun rs => rs = [.int (rlst0 n lo hi)])
    rw [t43]
    simp only [rlstP, Bool.and_eq_true, inF_iff, inC_iff] at hp
    have m1 := mul_bd (a := n) (b := lo + 1) (A := 1000) (B := 1000001) (by omega) (by omega) (by omega) (by omega)
    have m2 := mul_bd (a := n) (b := hi - 1) (A := 1000) (B := 1000001) (by omega) (by omega) (by omega) (by omega)
    rw [ar_add (by omega) (by omega), ar_sub (by omega) (by omega), ar_mul (a := n) (b := lo + 1) (by omega) (by omega), ar_mul (a := n) (b := hi - 1) (by omega) (by omega), lss_d]
    unfold rlst0 lst
    by_cases h : 0 < n <;> simp [h]

theorem c44 : CT Try.prog sigs Φ 44 :=
  ct_of [50] [41, 51] noLoop 100 mixed rfl Try.func44 (by kernel_rfl) (forall_cons c50 forall_nil) fun l0 hl0 hp => by
    obtain ⟨n, l1, rfl, hl1⟩ := canon_int hl0
    obtain ⟨lo, l2, rfl, hl2⟩ := canon_int hl1
    obtain ⟨hi, l3, rfl, hl3⟩ := canon_int hl2
    obtain ⟨rest, l4, rfl, hl4⟩ := canon_int hl3
    cases canon_nil hl4
    clear hl4 hl3 hl2 hl1 hl0
    have hp : rspnP n lo hi rest = true := hp
    show T.holds _ _ _ (resQ Φ fun rs => rs = [.int (rspn0 n lo hi rest), .int (rspn1 n lo hi rest)])
    rw [t44]
    simp only [rspnP, Bool.and_eq_true, inF_iff, inC_iff, decide_eq_true_eq] at hp
    unfold rspn0 rspn1 spn0 spn1
    by_cases h0 : n = 0
    · subst h0
      simp [eql_d]
    · by_cases h : 0 < n
      · have hP : rflrP rest n = true := by simp only [rflrP, Bool.and_eq_true, decide_eq_true_eq]; omega
        have hn : ¬ n < 0 := by omega
        rw [hP]
        simp [eql_d, lss_d, h0, h, hn, rflr0]
      · have hn : n < 0 := by omega
        have hP : rflrP rest (-n) = true := by simp only [rflrP, Bool.and_eq_true, decide_eq_true_eq]; omega
        have q := ediv_bd (a := rest) (b := -n) (B := 100000000000) (by omega) (by omega) (by omega)
        rw [ar_sub (a := 0) (b := n) (by omega) (by omega), Int.zero_sub, hP]
        simp only [rflr0]
        rw [ar_sub (a := 0) (by omega) (by omega), Int.zero_sub]
        simp [eql_d, lss_d, h0, h, hn]

theorem c24 : CT Try.prog sigs Φ 24 :=
  ct_of [43, 44] [41, 51] noLoop 100 mixed rfl Try.func24 (by kernel_rfl) (forall_cons c43 (forall_cons c44 forall_nil)) fun l0 hl0 hp => by
    obtain ⟨a, l1, rfl, hl1⟩ := canon_int hl0
    obtain ⟨b, l2, rfl, hl2⟩ := canon_int hl1
    obtain ⟨c, l3, rfl, hl3⟩ := canon_int hl2
    obtain ⟨d, l4, rfl, hl4⟩ := canon_int hl3
    obtain ⟨x0, l5, rfl, hl5⟩ := canon_int hl4
    obtain ⟨y0, l6, rfl, hl6⟩ := canon_int hl5
    obtain ⟨z0, l7, rfl, hl7⟩ := canon_int hl6
    obtain ⟨x1, l8, rfl, hl8⟩ := canon_int hl7
    obtain ⟨y1, l9, rfl, hl9⟩ := canon_int hl8
    obtain ⟨z1, l10, rfl, hl10⟩ := canon_int hl9
    cases canon_nil hl10
    clear hl10 hl9 hl8 hl7 hl6 hl5 hl4 hl3 hl2 hl1 hl0
    have hp : rHulP a b c d x0 y0 z0 x1 y1 z1 = true := hp
    show T.holds _ _ _ (resQ Φ fun rs => rs = [.int (rHul0 a b c d x0 y0 z0 x1 y1 z1), .int (rHul1 a b c d x0 y0 z0 x1 y1 z1), .int (rHul2 a b c d x0 y0 z0 x1 y1 z1), .int (rHul3 a b c d x0 y0 z0 x1 y1 z1), .int (rHul4 a b c d x0 y0 z0 x1 y1 z1), .int (rHul5 a b c d x0 y0 z0 x1 y1 z1), .bool (rHul6 a b c d x0 y0 z0 x1 y1 z1)])
    rw [t24]
    simp only [rHulP, Bool.and_eq_true, inH_iff, inB, in3_iff] at hp
    obtain ⟨⟨ha, hb, hc, hd⟩, ⟨hx0, hy0, hz0⟩, hx1, hy1, hz1⟩ := hp
    have p1 : rlstP a x0 x1 = true := by simp only [rlstP, Bool.and_eq_true, inF_iff, inC_iff]; omega
    have p2 : rlstP b y0 y1 = true := by simp only [rlstP, Bool.and_eq_true, inF_iff, inC_iff]; omega
    have p3 : rlstP c z0 z1 = true := by simp only [rlstP, Bool.and_eq_true, inF_iff, inC_iff]; omega
    rw [p1, p2, p3]
    simp only [rlst0]
    have l1 := lst_bd ha hx0 hx1
    have l2 := lst_bd hb hy0 hy1
    have l3 := lst_bd hc hz0 hz1
    rw [ar_add (a := lst a x0 x1) (by omega) (by omega), ar_add (by omega) (by omega), ar_sub (a := d) (b := lst b y0 y1) (by omega) (by omega), ar_sub (a := d) (b := lst a x0 x1) (by omega) (by omega),
      ar_sub (a := d - lst b y0 y1) (by omega) (by omega), ar_sub (a := d - lst a x0 x1) (b := lst c z0 z1) (by omega) (by omega), ar_sub (a := d - lst a x0 x1) (b := lst b y0 y1) (by omega) (by omega)]
    have s1 : rspnP a x0 x1 (d - lst b y0 y1 - lst c z0 z1) = true := by simp only [rspnP, Bool.and_eq_true, inF_iff, inC_iff, decide_eq_true_eq]; omega
    have s2 : rspnP b y0 y1 (d - lst a x0 x1 - lst c z0 z1) = true := by simp only [rspnP, Bool.and_eq_true, inF_iff, inC_iff, decide_eq_true_eq]; omega
    have s3 : rspnP c z0 z1 (d - lst a x0 x1 - lst b y0 y1) = true := by simp only [rspnP, Bool.and_eq_true, inF_iff, inC_iff, decide_eq_true_eq]; omega
    rw [s1, s2, s3, lss_d]
    simp only [rspn0, rspn1, rHul0, rHul1, rHul2, rHul3, rHul4, rHul5, rHul6]
    by_cases h : d < lst a x0 x1 + lst b y0 y1 + lst c z0 z1
    · have hn : noHull a b c d x0 y0 z0 x1 y1 z1 := h
      rw [decide_eq_true h]
      simp [hn]
    · have hn : ¬ noHull a b c d x0 y0 z0 x1 y1 z1 := h
      rw [decide_eq_false h]
      simp [hn]

theorem c49 : CT Try.prog sigs Φ 49 :=
  ct_of [] [41, 51] noLoop 100 mixed rfl Try.func49 (by kernel_rfl) forall_nil fun l0 hl0 hp => by
    obtain ⟨n, l1, rfl, hl1⟩ := canon_int hl0
    cases canon_nil hl1
    clear hl1 hl0
    have hp : ablP n = true := hp
    show T.holds _ _ _ (resQ Φ fun rs => rs = [.int (abl0 n)])
    rw [t49]
    simp only [ablP, inC_iff] at hp
    simp only [abl0, lss_d, cond_if, decide_eq_true_eq]
    rw [ar_sub (by omega) (by omega), Int.zero_sub]
    split <;> simp [*]

theorem c48 : CT Try.prog sigs Φ 48 :=
  ct_of [] [41, 51] (fun f r => if f = 48 ∧ r = 1 then some ⟨[(0, .int .i64), (1, .int .i64)], []⟩ else none) 100 mixed rfl Try.func48 (by kernel_rfl) forall_nil fun l0 hl0 hp => by
    obtain ⟨a, l1, rfl, hl1⟩ := canon_int hl0
    obtain ⟨b, l2, rfl, hl2⟩ := canon_int hl1
    cases canon_nil hl2
    clear hl2 hl1 hl0
    have hp : dvsP a b = true := hp
    show T.holds _ _ _ (resQ Φ fun rs => rs = [.int (dvs0 a b)])
    rw [t48]
    simp only [dvsP, Bool.and_eq_true, decide_eq_true_eq] at hp
    show ∃ n, iterH _ Φ [.int a, .int b] (resQ Φ fun rs => rs = [.int (dvs0 a b)]) n [.int a, .int b]
    have key : ∀ (m : Nat) (x y : Int), 0 ≤ x → 0 ≤ y → y.natAbs ≤ m → dvs0 x y = dvs0 a b →
        ∃ n, iterH (fun ρ' Q' => (T.ite (.cmp .lss (.int 0) (.var 3)) (.need (.c (.not (.cmp .eql (.var 3) (.int 0)))) (.leaf (.cont 0 [(.var 3), (.ar .rem .i64 (.var 2) (.var 3))]))) (.leaf (.res [(.toI (.var 2))]))).holds Φ ρ' Q') Φ [.int a, .int b] (resQ Φ fun rs => rs = [.int (dvs0 a b)]) n [.int x, .int y] := by
      intro m
      induction m with
      | zero =>
        intro x y hx hy hm he
        have h0 : y = 0 := by omega
        subst h0
        refine ⟨1, ?_⟩
        show [Sc.int x] = [Sc.int (dvs0 a b)]
        rw [← he]
        simp only [dvs0, Int.natAbs_zero, Nat.gcd_zero_right]
        rw [Int.natAbs_of_nonneg hx]
      | succ m ih =>
        intro x y hx hy hm he
        by_cases h0 : y = 0
        · subst h0
          refine ⟨1, ?_⟩
          show [Sc.int x] = [Sc.int (dvs0 a b)]
          rw [← he]
          simp only [dvs0, Int.natAbs_zero, Nat.gcd_zero_right]
          rw [Int.natAbs_of_nonneg hx]
        · have hq : 0 < y.natAbs := by omega
          have hr : (x.tmod y).natAbs = x.natAbs % y.natAbs := Int.natAbs_tmod x y
          have hlt := Nat.mod_lt x.natAbs hq
          obtain ⟨n, hn⟩ := ih y (x.tmod y) hy (Int.tmod_nonneg y hx) (by omega) (by
            rw [← he]
            show ((Nat.gcd y.natAbs (x.tmod y).natAbs : Nat) : Int) = ((Nat.gcd x.natAbs y.natAbs : Nat) : Int)
            rw [hr, Nat.gcd_comm x.natAbs, Nat.gcd_rec y.natAbs x.natAbs, Nat.gcd_comm])
          refine ⟨n + 1, ?_⟩
          show cond (cmpI .lss 0 y) (cond (!(cmpI .eql y 0)) (iterH _ Φ [.int a, .int b] _ n [.int y, .int (x.tmod y)]) False) _
          rw [lss_d, eql_d, decide_eq_true (p := 0 < y) (by omega), decide_eq_false h0]
          exact hn
    exact key b.natAbs a b hp.1 hp.2 (Nat.le_refl _) rfl

theorem c31 : CT Try.prog sigs Φ 31 :=
  ct_of [49, 48, 50] [41, 51] noLoop 100 mixed rfl Try.func31 (by kernel_rfl) (forall_cons c49 (forall_cons c48 (forall_cons c50 forall_nil))) fun l0 hl0 hp => by
    obtain ⟨a, l1, rfl, hl1⟩ := canon_int hl0
    obtain ⟨b, l2, rfl, hl2⟩ := canon_int hl1
    obtain ⟨c, l3, rfl, hl3⟩ := canon_int hl2
    obtain ⟨d, l4, rfl, hl4⟩ := canon_int hl3
    cases canon_nil hl4
    clear hl4 hl3 hl2 hl1 hl0
    have hp : rNrmP a b c d = true := hp
    show T.holds _ _ _ (resQ Φ fun rs => rs = [.int (rNrm0 a b c d), .int (rNrm1 a b c d), .int (rNrm2 a b c d), .int (rNrm3 a b c d)])
    rw [t31]
    have h : chkH a b c d = 0 := of_decide_eq_true hp
    have hk := kH h
    have hr := (chkH_ok.1 h).1
    simp only [inH_iff] at hr
    have p1 : ablP a = true := by simp only [ablP, inC_iff]; omega
    have p2 : ablP b = true := by simp only [ablP, inC_iff]; omega
    have p3 : ablP c = true := by simp only [ablP, inC_iff]; omega
    have ab : ∀ n : Int, (abl0 n).natAbs = n.natAbs := by intro n; simp only [abl0]; split <;> omega
    have q0 : ∀ n : Int, 0 ≤ abl0 n := by intro n; simp only [abl0]; split <;> omega
    have p4 : dvsP (abl0 a) (abl0 b) = true := by simp only [dvsP, Bool.and_eq_true, decide_eq_true_eq]; exact ⟨q0 a, q0 b⟩
    have p5 : dvsP (dvs0 (abl0 a) (abl0 b)) (abl0 c) = true := by
      simp only [dvsP, Bool.and_eq_true, decide_eq_true_eq]; exact ⟨by simp only [dvs0]; omega, q0 c⟩
    have e : dvs0 (dvs0 (abl0 a) (abl0 b)) (abl0 c) = k3 a b c := by simp only [dvs0, k3, ab, Int.natAbs_natCast]
    have p6 : rflrP d (k3 a b c) = true := by simp only [rflrP, Bool.and_eq_true, decide_eq_true_eq]; omega
    rw [p1, p2, p3, p4, p5, e, p6]
    have hn : (!(cmpI .eql (k3 a b c) 0)) = true := by
      rw [eql_d, decide_eq_false (by omega)]; rfl
    rw [hn, quo_k (by omega) (by omega), quo_k (by omega) (by omega), quo_k (by omega) (by omega)]
    rfl

theorem c46 : CT Try.prog sigs Φ 46 :=
  ct_of [35, 42] [41, 51] (fun f r => if f = 46 ∧ r = 5 then some ⟨[(3, .int .i64), (5, .int .i64)], []⟩ else none) 100 mixed rfl Try.func46 (by kernel_rfl) (forall_cons c35 (forall_cons c42 forall_nil)) fun l0 hl0 hp => by
    obtain ⟨a, l1, rfl, hl1⟩ := canon_int hl0
    obtain ⟨b, l2, rfl, hl2⟩ := canon_int hl1
    obtain ⟨c, l3, rfl, hl3⟩ := canon_int hl2
    obtain ⟨d, l4, rfl, hl4⟩ := canon_int hl3
    cases canon_nil hl4
    clear hl4 hl3 hl2 hl1 hl0
    have hp : nmlP a b c d = true := hp
    show T.holds _ _ _ (resQ Φ fun rs => rs = [.int (nml0 a b c d), .int (nml1 a b c d), .int (nml2 a b c d), .int (nml3 a b c d)])
    rw [t46]
    have h : chkH a b c d = 0 := of_decide_eq_true hp
    have hk := kH h
    have hr := (chkH_ok.1 h).1
    simp only [inH_iff] at hr
    generalize hR : [Sc.int (nml0 a b c d), .int (nml1 a b c d), .int (nml2 a b c d), .int (nml3 a b c d)] = R
    show T.holds Φ (.loop _ _) [.int a, .int b, .int c, .int d] (resQ Φ fun rs => rs = R)
    refine gcd_loop (k := 4) (x := 0) (y := a) rfl rfl rfl fun g1 hg1 _ => ?_
    refine gcd_loop (k := 6) (x := g1) (y := b) rfl rfl rfl fun g2 hg2 _ => ?_
    refine gcd_loop (k := 8) (x := g2) (y := c) rfl rfl rfl fun g3 hg3 _ => ?_
    have hg : g3.natAbs = (k3 a b c).natAbs := by
      rw [hg3, hg2, hg1]
      simp [k3]
    have hm : mxI g3 (arI .sub .i64 0 g3) = k3 a b c := mx_abs hg (by omega) hk.2
    have hn : (!(cmpI .eql (k3 a b c) 0)) = true := by
      rw [eql_d, decide_eq_false (by omega)]; rfl
    have hP : flrP d (k3 a b c) = true := by simp only [flrP, Bool.and_eq_true, decide_eq_true_eq]; omega
    show cond (!(cmpI .eql (mxI g3 (arI .sub .i64 0 g3)) 0)) (cond (!(cmpI .eql (mxI g3 (arI .sub .i64 0 g3)) 0)) (cond (!(cmpI .eql (mxI g3 (arI .sub .i64 0 g3)) 0)) (cond (flrP d (mxI g3 (arI .sub .i64 0 g3)))
      ([Sc.int (arI .quo .i64 a (mxI g3 (arI .sub .i64 0 g3))), .int (arI .quo .i64 b (mxI g3 (arI .sub .i64 0 g3))), .int (arI .quo .i64 c (mxI g3 (arI .sub .i64 0 g3))), .int (flr0 d (mxI g3 (arI .sub .i64 0 g3)))] = R) False) False) False) False
    rw [hm, hn, hP]
    show _ = _
    rw [quo_k (by omega) (by omega), quo_k (by omega) (by omega), quo_k (by omega) (by omega), ← hR]
    rfl

theorem c28 : CT Try.prog sigs Φ 28 :=
  ct_of [14, 46] [41, 51] noLoop 100 mixed rfl Try.func28 (by kernel_rfl) (forall_cons c14 (forall_cons c46 forall_nil)) fun l0 hl0 hp => by
    obtain ⟨a, l1, rfl, hl1⟩ := canon_int hl0
    obtain ⟨b, l2, rfl, hl2⟩ := canon_int hl1
    obtain ⟨c, l3, rfl, hl3⟩ := canon_int hl2
    obtain ⟨d, l4, rfl, hl4⟩ := canon_int hl3
    cases canon_nil hl4
    clear hl4 hl3 hl2 hl1 hl0
    show T.holds _ _ _ (resQ Φ fun rs => rs = [.int (nrm0 a b c d), .int (nrm1 a b c d), .int (nrm2 a b c d), .int (nrm3 a b c d), .int (nrm4 a b c d)])
    rw [t28]
    simp only [chk0, nml0, nml1, nml2, nml3, nrm0, nrm1, nrm2, nrm3, nrm4, eql_d]
    by_cases h : chkH a b c d = 0
    · have hP : nmlP a b c d = true := decide_eq_true h
      rw [hP]
      simp [h]
    · simp [h]

theorem c47 : CT Try.prog sigs Φ 47 :=
  ct_of [28] [41, 51] noLoop 100 mixed rfl Try.func47 (by kernel_rfl) (forall_cons c28 forall_nil) fun l0 hl0 hp => by
    obtain ⟨a, l1, rfl, hl1⟩ := canon_int hl0
    obtain ⟨b, l2, rfl, hl2⟩ := canon_int hl1
    obtain ⟨c, l3, rfl, hl3⟩ := canon_int hl2
    obtain ⟨d, l4, rfl, hl4⟩ := canon_int hl3
    obtain ⟨e, l5, rfl, hl5⟩ := canon_int hl4
    obtain ⟨f, l6, rfl, hl6⟩ := canon_int hl5
    obtain ⟨g, l7, rfl, hl7⟩ := canon_int hl6
    obtain ⟨h, l8, rfl, hl8⟩ := canon_int hl7
    cases canon_nil hl8
    clear hl8 hl7 hl6 hl5 hl4 hl3 hl2 hl1 hl0
    show T.holds _ _ _ (resQ Φ fun rs => rs = [.int (bth0 a b c d e f g h), .int (bth1 a b c d e f g h), .int (bth2 a b c d e f g h), .int (bth3 a b c d e f g h), .int (bth4 a b c d e f g h), .int (bth5 a b c d e f g h), .int (bth6 a b c d e f g h), .int (bth7 a b c d e f g h), .int (bth8 a b c d e f g h)])
    rw [t47]
    simp only [nrm0, nrm1, nrm2, nrm3, nrm4, bth0, bth1, bth2, bth3, bth4, bth5, bth6, bth7, bth8, eql_d, chk4]
    by_cases u : chkH a b c d = 0
    · by_cases v : chkH e f g h = 0 <;> simp [u, v]
    · simp [u]

theorem c29 : CT Try.prog sigs Φ 29 :=
  ct_of [47] [41, 51] noLoop 100 mixed rfl Try.func29 (by kernel_rfl) (forall_cons c47 forall_nil) fun l0 hl0 hp => by
    obtain ⟨a, l1, rfl, hl1⟩ := canon_int hl0
    obtain ⟨b, l2, rfl, hl2⟩ := canon_int hl1
    obtain ⟨c, l3, rfl, hl3⟩ := canon_int hl2
    obtain ⟨d, l4, rfl, hl4⟩ := canon_int hl3
    obtain ⟨e, l5, rfl, hl5⟩ := canon_int hl4
    obtain ⟨f, l6, rfl, hl6⟩ := canon_int hl5
    obtain ⟨g, l7, rfl, hl7⟩ := canon_int hl6
    obtain ⟨h, l8, rfl, hl8⟩ := canon_int hl7
    cases canon_nil hl8
    clear hl8 hl7 hl6 hl5 hl4 hl3 hl2 hl1 hl0
    show T.holds _ _ _ (resQ Φ fun rs => rs = [.bool (eql0 a b c d e f g h), .int (eql1 a b c d e f g h)])
    rw [t29]
    simp only [bth0, bth1, bth2, bth3, bth4, bth5, bth6, bth7, bth8, eql0, eql1, eql_d]
    by_cases w : chk4 a b c d e f g h = 0
    · have u := (chk4_ok.1 w).1
      simp [w, u, Bool.decide_and]
    · simp [w]

theorem c30 : CT Try.prog sigs Φ 30 :=
  ct_of [47, 35] [41, 51] noLoop 100 mixed rfl Try.func30 (by kernel_rfl) (forall_cons c47 (forall_cons c35 forall_nil)) fun l0 hl0 hp => by
    obtain ⟨a, l1, rfl, hl1⟩ := canon_int hl0
    obtain ⟨b, l2, rfl, hl2⟩ := canon_int hl1
    obtain ⟨c, l3, rfl, hl3⟩ := canon_int hl2
    obtain ⟨d, l4, rfl, hl4⟩ := canon_int hl3
    obtain ⟨e, l5, rfl, hl5⟩ := canon_int hl4
    obtain ⟨f, l6, rfl, hl6⟩ := canon_int hl5
    obtain ⟨g, l7, rfl, hl7⟩ := canon_int hl6
    obtain ⟨h, l8, rfl, hl8⟩ := canon_int hl7
    cases canon_nil hl8
    clear hl8 hl7 hl6 hl5 hl4 hl3 hl2 hl1 hl0
    show T.holds _ _ _ (resQ Φ fun rs => rs = [.bool (wth0 a b c d e f g h), .int (wth1 a b c d e f g h)])
    rw [t30]
    simp only [fct0, fct1, fct2, bth0, bth1, bth2, bth3, bth4, bth5, bth6, bth7, bth8, wth0, wth1, eql_d, lss_d, nlt_d]
    by_cases w : chk4 a b c d e f g h = 0
    · have u := (chk4_ok.1 w).1
      simp only [if_pos w, if_pos u, w]
      by_cases e1 : a.tdiv (k3 a b c) = e.tdiv (k3 e f g)
      · by_cases e2 : b.tdiv (k3 a b c) = f.tdiv (k3 e f g)
        · by_cases e3 : c.tdiv (k3 a b c) = g.tdiv (k3 e f g)
          · simp [e1, e2, e3]
          · simp [e3]
        · simp [e2]
      · simp [e1]
    · simp [w]

theorem c32 : CT Try.prog sigs Φ 32 :=
  ct_of [31] [41, 51] noLoop 100 mixed rfl Try.func32 (by kernel_rfl) (forall_cons c31 forall_nil) fun l0 hl0 hp => by
    obtain ⟨a, l1, rfl, hl1⟩ := canon_int hl0
    obtain ⟨b, l2, rfl, hl2⟩ := canon_int hl1
    obtain ⟨c, l3, rfl, hl3⟩ := canon_int hl2
    obtain ⟨d, l4, rfl, hl4⟩ := canon_int hl3
    obtain ⟨e, l5, rfl, hl5⟩ := canon_int hl4
    obtain ⟨f, l6, rfl, hl6⟩ := canon_int hl5
    obtain ⟨g, l7, rfl, hl7⟩ := canon_int hl6
    obtain ⟨h, l8, rfl, hl8⟩ := canon_int hl7
    cases canon_nil hl8
    clear hl8 hl7 hl6 hl5 hl4 hl3 hl2 hl1 hl0
    have hp : rWthP a b c d e f g h = true := hp
    show T.holds _ _ _ (resQ Φ fun rs => rs = [.bool (rWth0 a b c d e f g h)])
    rw [t32]
    simp only [rWthP, Bool.and_eq_true, decide_eq_true_eq] at hp
    have p1 : rNrmP a b c d = true := decide_eq_true hp.1
    have p2 : rNrmP e f g h = true := decide_eq_true hp.2
    rw [p1, p2]
    simp only [rNrm0, rNrm1, rNrm2, rNrm3, rWth0, eql_d, lss_d, nlt_d]
    by_cases e1 : a.tdiv (k3 a b c) = e.tdiv (k3 e f g)
    · by_cases e2 : b.tdiv (k3 a b c) = f.tdiv (k3 e f g)
      · by_cases e3 : c.tdiv (k3 a b c) = g.tdiv (k3 e f g)
        · simp [e1, e2, e3]
        · simp [e3]
      · simp [e2]
    · simp [e1]

theorem c45 : CT Try.prog sigs Φ 45 :=
  ct_of [] [41, 51] noLoop 100 mixed rfl Try.func45 (by kernel_rfl) forall_nil fun l0 hl0 hp => by
    obtain ⟨a, l1, rfl, hl1⟩ := canon_int hl0
    obtain ⟨b, l2, rfl, hl2⟩ := canon_int hl1
    obtain ⟨c, l3, rfl, hl3⟩ := canon_int hl2
    obtain ⟨d, l4, rfl, hl4⟩ := canon_int hl3
    obtain ⟨dir, l5, rfl, hl5⟩ := canon_int hl4
    cases canon_nil hl5
    clear hl5 hl4 hl3 hl2 hl1 hl0
    have hp : rslpP a b c d dir = true := hp
    show T.holds _ _ _ (resQ Φ fun rs => rs = [.int (rslp0 a b c d dir)])
    rw [t45]
    simp only [rslpP, Bool.and_eq_true, inH_iff, decide_eq_true_eq] at hp
    rw [ar_sub (b := a) (by omega) (by omega), ar_sub (b := b) (by omega) (by omega), ar_sub (b := c) (by omega) (by omega)]
    unfold rslp0 slp
    rcases six hp.1.2 hp.2 with rfl | rfl | rfl | rfl | rfl | rfl <;> simp [eql_d]

theorem c27 : CT Try.prog sigs Φ 27 :=
  ct_of [] [41, 51] noLoop 100 mixed rfl Try.func27 (by kernel_rfl) forall_nil fun l0 hl0 hp => by
    obtain ⟨x0, l1, rfl, hl1⟩ := canon_int hl0
    obtain ⟨y0, l2, rfl, hl2⟩ := canon_int hl1
    obtain ⟨z0, l3, rfl, hl3⟩ := canon_int hl2
    obtain ⟨x1, l4, rfl, hl4⟩ := canon_int hl3
    obtain ⟨y1, l5, rfl, hl5⟩ := canon_int hl4
    obtain ⟨z1, l6, rfl, hl6⟩ := canon_int hl5
    obtain ⟨dir, l7, rfl, hl7⟩ := canon_int hl6
    obtain ⟨by', l8, rfl, hl8⟩ := canon_int hl7
    cases canon_nil hl8
    clear hl8 hl7 hl6 hl5 hl4 hl3 hl2 hl1 hl0
    have hp : mvdP x0 y0 z0 x1 y1 z1 dir by' = true := hp
    show T.holds _ _ _ (resQ Φ fun rs => rs = [.int (mvd0 x0 y0 z0 x1 y1 z1 dir by'), .int (mvd1 x0 y0 z0 x1 y1 z1 dir by'), .int (mvd2 x0 y0 z0 x1 y1 z1 dir by'), .int (mvd3 x0 y0 z0 x1 y1 z1 dir by'), .int (mvd4 x0 y0 z0 x1 y1 z1 dir by'), .int (mvd5 x0 y0 z0 x1 y1 z1 dir by')])
    rw [t27]
    simp only [mvdP, Bool.and_eq_true, inB, in3_iff, decide_eq_true_eq] at hp
    have z : ∀ w : Int, (-1000000 ≤ w ∧ w ≤ 1000000) → arI .add .i64 w 0 = w := by intro w hw; rw [ar_add (by omega) (by omega), Int.add_zero]
    have p : ∀ w : Int, (-1000000 ≤ w ∧ w ≤ 1000000) → arI .add .i64 w by' = w + by' := by intro w hw; rw [ar_add (by omega) (by omega)]
    have q : ∀ w : Int, (-1000000 ≤ w ∧ w ≤ 1000000) → arI .add .i64 w (-by') = w + -by' := by intro w hw; rw [ar_add (by omega) (by omega)]
    obtain ⟨⟨⟨⟨⟨⟨hx0, hy0, hz0⟩, hx1, hy1, hz1⟩, d1⟩, d2⟩, b1⟩, b2⟩ := hp
    rw [ar_sub (a := 0) (b := by') (by omega) (by omega), Int.zero_sub, z x0 hx0, z y0 hy0, z z0 hz0, z x1 hx1, z y1 hy1, z z1 hz1, p x0 hx0, p y0 hy0, p z0 hz0, p x1 hx1, p y1 hy1, p z1 hz1, q x0 hx0, q y0 hy0, q z0 hz0, q x1 hx1, q y1 hy1, q z1 hz1]
    unfold mvd0 mvd1 mvd2 mvd3 mvd4 mvd5
    rcases six d1 d2 with rfl | rfl | rfl | rfl | rfl | rfl <;> simp [eql_d]

end Go.Proofs.Ytldnlbfchkdoiaa
