/- The fraction seat: the algebra of fractions; plain Lean. -/
import Derived.Test.YtkmffnjmiechfaaDoorFM6
import Derived.Test.YtkmffnjmiechfaaDoorFA0
namespace Go.Proofs.YtkmffnjmiechfaaDoor
open Go.Sx
set_option maxRecDepth 100000
theorem add_eq {an ad bn bd : Int} (v1 : vF an ad = true) (v2 : vF bn bd = true) : Add0 an ad bn bd = frN (an * bd + bn * ad) (ad * bd) ∧ Add1 an ad bn bd = frD (an * bd + bn * ad) (ad * bd) ∧ Add2 an ad bn bd = frE (an * bd + bn * ad) (ad * bd) := by
  have h : (vF an ad && vF bn bd) = true := by rw [v1, v2]; rfl
  exact ⟨if_pos h, if_pos h, if_pos h⟩
theorem sub_eq {an ad bn bd : Int} (v1 : vF an ad = true) (v2 : vF bn bd = true) : Sub0 an ad bn bd = frN (an * bd - bn * ad) (ad * bd) ∧ Sub1 an ad bn bd = frD (an * bd - bn * ad) (ad * bd) ∧ Sub2 an ad bn bd = frE (an * bd - bn * ad) (ad * bd) := by
  have h : (vF an ad && vF bn bd) = true := by rw [v1, v2]; rfl
  exact ⟨if_pos h, if_pos h, if_pos h⟩
theorem mul_eq {an ad bn bd : Int} (v1 : vF an ad = true) (v2 : vF bn bd = true) : Mul0 an ad bn bd = frN (an * bn) (ad * bd) ∧ Mul1 an ad bn bd = frD (an * bn) (ad * bd) ∧ Mul2 an ad bn bd = frE (an * bn) (ad * bd) := by
  have h : (vF an ad && vF bn bd) = true := by rw [v1, v2]; rfl
  exact ⟨if_pos h, if_pos h, if_pos h⟩
theorem div_eq {an ad bn bd : Int} (v1 : vF an ad = true) (v2 : vF bn bd = true) (h0 : bn ≠ 0) : Div0 an ad bn bd = frN (if bn < 0 then -(an * bd) else an * bd) (ad * ab bn) ∧ Div1 an ad bn bd = frD (if bn < 0 then -(an * bd) else an * bd) (ad * ab bn) ∧ Div2 an ad bn bd = frE (if bn < 0 then -(an * bd) else an * bd) (ad * ab bn) := by
  have h : (vF an ad && vF bn bd) = true ∧ bn ≠ 0 := ⟨by rw [v1, v2]; rfl, h0⟩
  exact ⟨if_pos h, if_pos h, if_pos h⟩
theorem vpos {n d : Int} (v : vF n d = true) : 0 < d := by rw [vF_iff] at v; omega
theorem add_ok {an ad bn bd : Int} (h : Add2 an ad bn bd = 0) : vF an ad = true ∧ vF bn bd = true ∧ vF (Add0 an ad bn bd) (Add1 an ad bn bd) = true ∧ Add0 an ad bn bd * (ad * bd) = (an * bd + bn * ad) * Add1 an ad bn bd := by
  by_cases hv : (vF an ad && vF bn bd) = true
  · have hv' := hv
    rw [Bool.and_eq_true] at hv'
    obtain ⟨v1, v2⟩ := hv'
    obtain ⟨e0, e1, e2⟩ := add_eq v1 v2
    rw [e2] at h
    have D := Int.mul_pos (vpos v1) (vpos v2)
    rcases fr_e (an * bd + bn * ad) (ad * bd) with g | g
    · rw [e0, e1]
      exact ⟨v1, v2, fr_valid D g.2, (fr_val D g.2).1⟩
    · omega
  · have : Add2 an ad bn bd = 1 := if_neg hv
    omega
theorem mul_ok {an ad bn bd : Int} (h : Mul2 an ad bn bd = 0) : vF an ad = true ∧ vF bn bd = true ∧ vF (Mul0 an ad bn bd) (Mul1 an ad bn bd) = true ∧ Mul0 an ad bn bd * (ad * bd) = an * bn * Mul1 an ad bn bd := by
  by_cases hv : (vF an ad && vF bn bd) = true
  · have hv' := hv
    rw [Bool.and_eq_true] at hv'
    obtain ⟨v1, v2⟩ := hv'
    obtain ⟨e0, e1, e2⟩ := mul_eq v1 v2
    rw [e2] at h
    have D := Int.mul_pos (vpos v1) (vpos v2)
    rcases fr_e (an * bn) (ad * bd) with g | g
    · rw [e0, e1]
      exact ⟨v1, v2, fr_valid D g.2, (fr_val D g.2).1⟩
    · omega
  · have : Mul2 an ad bn bd = 1 := if_neg hv
    omega
theorem add_comm' (an ad bn bd : Int) : Add0 an ad bn bd = Add0 bn bd an ad ∧ Add1 an ad bn bd = Add1 bn bd an ad ∧ Add2 an ad bn bd = Add2 bn bd an ad := by
  simp only [Add0, Add1, Add2]
  rw [Bool.and_comm, Int.add_comm, Int.mul_comm ad bd]
  exact ⟨rfl, rfl, rfl⟩
theorem mul_comm' (an ad bn bd : Int) : Mul0 an ad bn bd = Mul0 bn bd an ad ∧ Mul1 an ad bn bd = Mul1 bn bd an ad ∧ Mul2 an ad bn bd = Mul2 bn bd an ad := by
  simp only [Mul0, Mul1, Mul2]
  rw [Bool.and_comm, Int.mul_comm an bn, Int.mul_comm ad bd]
  exact ⟨rfl, rfl, rfl⟩
theorem sub_back {an ad bn bd : Int} (h : Add2 an ad bn bd = 0) : Sub0 (Add0 an ad bn bd) (Add1 an ad bn bd) bn bd = an ∧ Sub1 (Add0 an ad bn bd) (Add1 an ad bn bd) bn bd = ad ∧ Sub2 (Add0 an ad bn bd) (Add1 an ad bn bd) bn bd = 0 := by
  obtain ⟨v1, v2, vx, val⟩ := add_ok h
  generalize Add0 an ad bn bd = x at *
  generalize Add1 an ad bn bd = X at *
  obtain ⟨e0, e1, e2⟩ := sub_eq vx v2
  rw [e0, e1, e2]
  exact fr_low (Int.mul_pos (vpos vx) (vpos v2)) v1 (by grind)
theorem div_back {an ad bn bd : Int} (h : Mul2 an ad bn bd = 0) (h0 : bn ≠ 0) : Div0 (Mul0 an ad bn bd) (Mul1 an ad bn bd) bn bd = an ∧ Div1 (Mul0 an ad bn bd) (Mul1 an ad bn bd) bn bd = ad ∧ Div2 (Mul0 an ad bn bd) (Mul1 an ad bn bd) bn bd = 0 := by
  obtain ⟨v1, v2, vx, val⟩ := mul_ok h
  generalize Mul0 an ad bn bd = x at *
  generalize Mul1 an ad bn bd = X at *
  obtain ⟨e0, e1, e2⟩ := div_eq vx v2 h0
  rw [e0, e1, e2]
  have ap : 0 < ab bn := by unfold ab; split <;> omega
  refine fr_low (Int.mul_pos (vpos vx) ap) v1 ?_
  unfold ab
  by_cases c : bn < 0
  · rw [if_pos c, if_pos c]
    grind
  · rw [if_neg c, if_neg c]
    grind
theorem distrib {an ad bn bd cn cd : Int} (h1 : Mul2 an ad bn bd = 0) (h2 : Add2 bn bd cn cd = 0) (h3 : Mul2 an ad (Add0 bn bd cn cd) (Add1 bn bd cn cd) = 0) (h4 : Mul2 an ad cn cd = 0)
    (h5 : Add2 (Mul0 an ad bn bd) (Mul1 an ad bn bd) (Mul0 an ad cn cd) (Mul1 an ad cn cd) = 0) :
    Mul0 an ad (Add0 bn bd cn cd) (Add1 bn bd cn cd) = Add0 (Mul0 an ad bn bd) (Mul1 an ad bn bd) (Mul0 an ad cn cd) (Mul1 an ad cn cd) ∧
    Mul1 an ad (Add0 bn bd cn cd) (Add1 bn bd cn cd) = Add1 (Mul0 an ad bn bd) (Mul1 an ad bn bd) (Mul0 an ad cn cd) (Mul1 an ad cn cd) := by
  obtain ⟨v1, v2, vp, ep⟩ := mul_ok h1
  obtain ⟨_, v3, vs, es⟩ := add_ok h2
  obtain ⟨_, _, vt, et⟩ := mul_ok h3
  obtain ⟨_, _, vr, er⟩ := mul_ok h4
  obtain ⟨_, _, vu, eu⟩ := add_ok h5
  have a0 := vpos v1
  have b0 := vpos v2
  have c0 := vpos v3
  have p0 := vpos vp
  have s0 := vpos vs
  have t0 := vpos vt
  have r0 := vpos vr
  have u0 := vpos vu
  generalize Add0 (Mul0 an ad bn bd) (Mul1 an ad bn bd) (Mul0 an ad cn cd) (Mul1 an ad cn cd) = u at *
  generalize Add1 (Mul0 an ad bn bd) (Mul1 an ad bn bd) (Mul0 an ad cn cd) (Mul1 an ad cn cd) = U at *
  generalize Mul0 an ad (Add0 bn bd cn cd) (Add1 bn bd cn cd) = t at *
  generalize Mul1 an ad (Add0 bn bd cn cd) (Add1 bn bd cn cd) = T at *
  generalize Mul0 an ad bn bd = p at *
  generalize Mul1 an ad bn bd = P at *
  generalize Mul0 an ad cn cd = r at *
  generalize Mul1 an ad cn cd = R at *
  generalize Add0 bn bd cn cd = s at *
  generalize Add1 bn bd cn cd = S at *
  clear h1 h2 h3 h4 h5
  apply frac_eq vt vu
  -- both are the same number
  have D1 : 0 < ad * (bd * cd) := Int.mul_pos a0 (Int.mul_pos b0 c0)
  have m1 : an * s * (ad * (bd * cd)) = an * (bn * cd + cn * bd) * (ad * S) := by grind
  have k1 : t * (ad * (bd * cd)) = an * (bn * cd + cn * bd) * T := val_trans (Int.mul_pos a0 s0) et m1
  have m2 := val_add ep er
  have m3 : u * (ad * bd * (ad * cd)) = (an * bn * (ad * cd) + an * cn * (ad * bd)) * U := val_trans (Int.mul_pos p0 r0) eu m2
  have m4 : (an * bn * (ad * cd) + an * cn * (ad * bd)) * (ad * (bd * cd)) = an * (bn * cd + cn * bd) * (ad * bd * (ad * cd)) := by grind
  have k2 : u * (ad * (bd * cd)) = an * (bn * cd + cn * bd) * U := val_trans (Int.mul_pos (Int.mul_pos a0 b0) (Int.mul_pos a0 c0)) m3 m4
  exact val_trans D1 k1 k2.symm
theorem assoc {an ad bn bd cn cd : Int} (h1 : Add2 an ad bn bd = 0) (h2 : Add2 bn bd cn cd = 0) :
    Add0 (Add0 an ad bn bd) (Add1 an ad bn bd) cn cd = Add0 an ad (Add0 bn bd cn cd) (Add1 bn bd cn cd) ∧
    Add1 (Add0 an ad bn bd) (Add1 an ad bn bd) cn cd = Add1 an ad (Add0 bn bd cn cd) (Add1 bn bd cn cd) ∧
    Add2 (Add0 an ad bn bd) (Add1 an ad bn bd) cn cd = Add2 an ad (Add0 bn bd cn cd) (Add1 bn bd cn cd) := by
  obtain ⟨v1, v2, vx, ex⟩ := add_ok h1
  obtain ⟨_, v3, vs, es⟩ := add_ok h2
  have a0 := vpos v1
  have b0 := vpos v2
  have c0 := vpos v3
  have x0 := vpos vx
  have s0 := vpos vs
  generalize Add0 an ad bn bd = x at *
  generalize Add1 an ad bn bd = X at *
  generalize Add0 bn bd cn cd = s at *
  generalize Add1 bn bd cn cd = S at *
  clear h1 h2
  obtain ⟨e0, e1, e2⟩ := add_eq vx v3
  obtain ⟨g0, g1, g2⟩ := add_eq v1 vs
  rw [e0, e1, e2, g0, g1, g2]
  refine fr_congr (Int.mul_pos x0 c0) (Int.mul_pos a0 s0) ?_
  have k1 := val_add (n := x) (d := X) (m := cn) (e := cd) (M := cn) (E := cd) ex rfl
  have k2 := val_add (n := an) (d := ad) (N := an) (D := ad) (m := s) (e := S) rfl es
  have D : 0 < ad * bd * cd := Int.mul_pos (Int.mul_pos a0 b0) c0
  have k3 : ((an * bd + bn * ad) * cd + cn * (ad * bd)) * (ad * S) = (an * S + s * ad) * (ad * bd * cd) := by
    have e : (an * bd + bn * ad) * cd + cn * (ad * bd) = an * (bd * cd) + (bn * cd + cn * bd) * ad := by grind
    rw [e]
    grind
  exact val_trans D k1 k3
theorem den_eq (x y : E) (l : List Sc) : ((eqE x y).den Φ l).toBool = (((x.den Φ l).toInt == (y.den Φ l).toInt)) := rfl
theorem fact_t {x y : E} {l : List Sc} (h : (x.den Φ l).toInt = (y.den Φ l).toInt) : ((eqE x y).den Φ l).toBool = true := by rw [den_eq]; simpa using h
theorem fact_b {x : E} {n : Int} {l : List Sc} {b : Bool} (h : decide ((x.den Φ l).toInt = n) = b) : ((eqE x (.int n)).den Φ l).toBool = b := by
  subst h
  rw [den_eq]
  show ((x.den Φ l).toInt == n) = _
  rfl
theorem ok_nil (l : List Sc) : FactsOk Φ l [] := fun p hp => by cases hp
theorem ok_app {l : List Sc} {F G : Facts} (h : FactsOk Φ l F) (h' : FactsOk Φ l G) : FactsOk Φ l (F ++ G) := fun p hp => by
  rcases List.mem_append.1 hp with k | k
  · exact h p k
  · exact h' p k
theorem ok_same {l : List Sc} {f g : Nat → E} (h0 : ((f 0).den Φ l).toInt = ((g 0).den Φ l).toInt) (h1 : ((f 1).den Φ l).toInt = ((g 1).den Φ l).toInt) (h2 : ((f 2).den Φ l).toInt = ((g 2).den Φ l).toInt) : FactsOk Φ l (same f g) :=
  FactsOk.cons (FactsOk.cons (FactsOk.cons (ok_nil l) (fact_t h1)) (fact_t h0)) (fact_t h2)
theorem ok_back {l : List Sc} {f : Nat → E} (h0 : ((f 0).den Φ l).toInt = (A0.den Φ l).toInt) (h1 : ((f 1).den Φ l).toInt = (A1.den Φ l).toInt) (h2 : ((f 2).den Φ l).toInt = 0) : FactsOk Φ l (back f) :=
  FactsOk.cons (FactsOk.cons (FactsOk.cons (ok_nil l) (fact_t h1)) (fact_t h0)) (fact_t h2)
theorem facts_ok (an ad bn bd cn cd : Int) {b1 b3 bz c1 c2 c3 c4 : Bool} (h1 : decide (Add2 an ad bn bd = 0) = b1) (h3 : decide (Mul2 an ad bn bd = 0) = b3) (hz : b3 = true → decide (bn = 0) = bz) (k1 : decide (Add2 bn bd cn cd = 0) = c1)
    (k2 : b3 = true → c1 = true → decide (Mul2 an ad (Add0 bn bd cn cd) (Add1 bn bd cn cd) = 0) = c2) (k3 : c2 = true → decide (Mul2 an ad cn cd = 0) = c3)
    (k4 : c3 = true → decide (Add2 (Mul0 an ad bn bd) (Mul1 an ad bn bd) (Mul0 an ad cn cd) (Mul1 an ad cn cd) = 0) = c4) :
    FactsOk Φ [.int an, .int ad, .int bn, .int bd, .int cn, .int cd] (facts4 b1 b3 bz c1 c2 c3 c4) := by
  obtain ⟨p0, p1, p2⟩ := add_comm' an ad bn bd
  obtain ⟨q0, q1, q2⟩ := mul_comm' an ad bn bd
  refine FactsOk.cons (ok_app (ok_app (ok_app (ok_app (ok_app (ok_app (ok_same (l := [.int an, .int ad, .int bn, .int bd, .int cn, .int cd]) (f := X) (g := q 11 [B0, B1, A0, A1]) p0 p1 p2) (ok_same (l := [.int an, .int ad, .int bn, .int bd, .int cn, .int cd]) (f := Pm) (g := q 13 [B0, B1, A0, A1]) q0 q1 q2)) ?_) ?_) ?_) ?_) ?_) rfl
  · exact FactsOk.cons (FactsOk.cons (FactsOk.cons (ok_nil _) (fact_b (l := [.int an, .int ad, .int bn, .int bd, .int cn, .int cd]) (x := Sm 2) (n := 0) k1)) (fact_b (l := [.int an, .int ad, .int bn, .int bd, .int cn, .int cd]) (x := Pm 2) (n := 0) h3)) (fact_b (l := [.int an, .int ad, .int bn, .int bd, .int cn, .int cd]) (x := X 2) (n := 0) h1)
  · cases b1 with
    | false => exact ok_nil _
    | true =>
      obtain ⟨r0, r1, r2⟩ := sub_back (of_decide_eq_true h1)
      exact ok_back (l := [.int an, .int ad, .int bn, .int bd, .int cn, .int cd]) (f := Bk) r0 r1 r2
  · cases b3 with
    | false => exact ok_nil _
    | true =>
      have hz' := hz rfl
      cases bz with
      | true => exact FactsOk.cons (ok_nil _) (fact_b (l := [.int an, .int ad, .int bn, .int bd, .int cn, .int cd]) (x := B0) (n := 0) hz')
      | false =>
        obtain ⟨r0, r1, r2⟩ := div_back (of_decide_eq_true h3) (of_decide_eq_false hz')
        exact FactsOk.cons (ok_back (l := [.int an, .int ad, .int bn, .int bd, .int cn, .int cd]) (f := Dk) r0 r1 r2) (fact_b (l := [.int an, .int ad, .int bn, .int bd, .int cn, .int cd]) (x := B0) (n := 0) hz')
  · cases b3 with
    | false => exact ok_nil _
    | true => cases c1 with
      | false => exact ok_nil _
      | true =>
        have e2 := k2 rfl rfl
        cases c2 with
        | false => exact FactsOk.cons (ok_nil _) (fact_b (l := [.int an, .int ad, .int bn, .int bd, .int cn, .int cd]) (x := Tm 2) (n := 0) e2)
        | true =>
          have e3 := k3 rfl
          cases c3 with
          | false => exact FactsOk.cons (FactsOk.cons (ok_nil _) (fact_b (l := [.int an, .int ad, .int bn, .int bd, .int cn, .int cd]) (x := Rm 2) (n := 0) e3)) (fact_b (l := [.int an, .int ad, .int bn, .int bd, .int cn, .int cd]) (x := Tm 2) (n := 0) e2)
          | true =>
            have e4 := k4 rfl
            cases c4 with
            | false => exact FactsOk.cons (FactsOk.cons (FactsOk.cons (ok_nil _) (fact_b (l := [.int an, .int ad, .int bn, .int bd, .int cn, .int cd]) (x := Um 2) (n := 0) e4)) (fact_b (l := [.int an, .int ad, .int bn, .int bd, .int cn, .int cd]) (x := Rm 2) (n := 0) e3)) (fact_b (l := [.int an, .int ad, .int bn, .int bd, .int cn, .int cd]) (x := Tm 2) (n := 0) e2)
            | true =>
              obtain ⟨r0, r1⟩ := distrib (of_decide_eq_true h3) (of_decide_eq_true k1) (of_decide_eq_true e2) (of_decide_eq_true e3) (of_decide_eq_true e4)
              exact FactsOk.cons (FactsOk.cons (FactsOk.cons (FactsOk.cons (FactsOk.cons (ok_nil _) (fact_t (l := [.int an, .int ad, .int bn, .int bd, .int cn, .int cd]) (x := Tm 1) (y := Um 1) r1)) (fact_t (l := [.int an, .int ad, .int bn, .int bd, .int cn, .int cd]) (x := Tm 0) (y := Um 0) r0)) (fact_b (l := [.int an, .int ad, .int bn, .int bd, .int cn, .int cd]) (x := Um 2) (n := 0) e4)) (fact_b (l := [.int an, .int ad, .int bn, .int bd, .int cn, .int cd]) (x := Rm 2) (n := 0) e3)) (fact_b (l := [.int an, .int ad, .int bn, .int bd, .int cn, .int cd]) (x := Tm 2) (n := 0) e2)
  · cases b1 with
    | false => exact ok_nil _
    | true => cases c1 with
      | false => exact ok_nil _
      | true =>
        obtain ⟨r0, r1, r2⟩ := assoc (of_decide_eq_true h1) (of_decide_eq_true k1)
        exact ok_same (l := [.int an, .int ad, .int bn, .int bd, .int cn, .int cd]) (f := Vm) (g := Wm) r0 r1 r2
end Go.Proofs.YtkmffnjmiechfaaDoor
