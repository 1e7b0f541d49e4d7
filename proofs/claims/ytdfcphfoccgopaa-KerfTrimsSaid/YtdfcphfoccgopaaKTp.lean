/- The kerf seat: the rounds of kerf.Trim, in plain Lean. -/
import Derived.Test.YtdfcphfoccgopaaKT2
namespace Go.Proofs.Ytdfcphfoccgopaa.KT
open Go.Sx Go.RowKit Go.Proofs.Ytdfcphfoccgopaa
set_option linter.unusedVariables false
set_option linter.unusedSimpArgs false
theorem sdL_map {S T : Type} (f : S → T) (mk : Int → Int → Int → S) (mk' : Int → Int → Int → T) (hf : ∀ a b c, mk' a b c = f (mk a b c)) (ax kf d p : Int) (l : List S) : sdL mk' ax kf d p (l.map f) = (sdL mk ax kf d p l).map f := by
  unfold sdL
  split <;> simp [hf]
theorem tr_map {S T : Type} (f : S → T) (mk : Int → Int → Int → S) (mk' : Int → Int → Int → T) (hf : ∀ a b c, mk' a b c = f (mk a b c)) (p0 q0 r0 p1 q1 r1 kf : Int) : ∀ (n : Nat) (ax x0 y0 z0 x1 y1 z1 : Int) (l : List S) (lost : Int),
    tr mk' p0 q0 r0 p1 q1 r1 kf n ax x0 y0 z0 x1 y1 z1 (l.map f) lost = ((tr mk p0 q0 r0 p1 q1 r1 kf n ax x0 y0 z0 x1 y1 z1 l lost).1.map f, (tr mk p0 q0 r0 p1 q1 r1 kf n ax x0 y0 z0 x1 y1 z1 l lost).2)
  | 0, _, _, _, _, _, _, _, _, _ => rfl
  | n + 1, ax, x0, y0, z0, x1, y1, z1, l, lost => by
    simp only [tr, sdL_map f mk mk' hf]
    split
    · split
      · exact tr_map f mk mk' hf p0 q0 r0 p1 q1 r1 kf n _ _ _ _ _ _ _ _ _
      · exact tr_map f mk mk' hf p0 q0 r0 p1 q1 r1 kf n _ _ _ _ _ _ _ _ _
    · split
      · exact tr_map f mk mk' hf p0 q0 r0 p1 q1 r1 kf n _ _ _ _ _ _ _ _ _
      · exact tr_map f mk mk' hf p0 q0 r0 p1 q1 r1 kf n _ _ _ _ _ _ _ _ _
theorem ax_cases {ax : Int} (h : inA ax = true) : ax = 0 ∨ ax = 1 ∨ ax = 2 := by
  simp only [inA, Bool.and_eq_true, decide_eq_true_eq] at h
  omega
/-- The section of a box across an axis. -/
def secA (x0 y0 z0 x1 y1 z1 ax : Int) : Int := if ax = 0 then (y1 - y0) * (z1 - z0) else if ax = 1 then (x1 - x0) * (z1 - z0) else (x1 - x0) * (y1 - y0)
theorem vol_put {x0 y0 z0 x1 y1 z1 ax : Int} (h : inA ax = true) (u v : Int) : volE (pX x0 ax u) (pY y0 ax u) (pZ z0 ax u) (pX x1 ax v) (pY y1 ax v) (pZ z1 ax v) = (v - u) * secA x0 y0 z0 x1 y1 z1 ax := by
  rcases ax_cases h with rfl | rfl | rfl <;> simp [volE, pX, pY, pZ, secA] <;> grind
theorem sec_put {x0 y0 z0 x1 y1 z1 ax : Int} (h : inA ax = true) (u v : Int) : secA (pX x0 ax u) (pY y0 ax u) (pZ z0 ax u) (pX x1 ax v) (pY y1 ax v) (pZ z1 ax v) ax = secA x0 y0 z0 x1 y1 z1 ax := by
  rcases ax_cases h with rfl | rfl | rfl <;> simp [pX, pY, pZ, secA]
theorem put_gx {x0 y0 z0 ax : Int} : pX x0 ax (gx x0 y0 z0 ax) = x0 ∧ pY y0 ax (gx x0 y0 z0 ax) = y0 ∧ pZ z0 ax (gx x0 y0 z0 ax) = z0 := by
  unfold pX pY pZ gx
  refine ⟨?_, ?_, ?_⟩ <;> (repeat' split) <;> first | rfl | omega
theorem gx_put {x0 y0 z0 ax : Int} (h : inA ax = true) (u : Int) : gx (pX x0 ax u) (pY y0 ax u) (pZ z0 ax u) ax = u := by
  rcases ax_cases h with rfl | rfl | rfl <;> simp [pX, pY, pZ, gx]
theorem vol_gx {x0 y0 z0 x1 y1 z1 ax : Int} (h : inA ax = true) : volE x0 y0 z0 x1 y1 z1 = (gx x1 y1 z1 ax - gx x0 y0 z0 ax) * secA x0 y0 z0 x1 y1 z1 ax := by
  rcases ax_cases h with rfl | rfl | rfl <;> simp [volE, secA, gx] <;> grind
theorem sec_nn {x0 y0 z0 x1 y1 z1 p0 q0 r0 p1 q1 r1 ax : Int} (hI : Inv x0 y0 z0 x1 y1 z1 p0 q0 r0 p1 q1 r1) : 0 ≤ secA x0 y0 z0 x1 y1 z1 ax := by
  obtain ⟨h1, h2, h3⟩ := hI
  unfold secA
  split
  · exact Int.mul_nonneg (by omega) (by omega)
  · split <;> exact Int.mul_nonneg (by omega) (by omega)
theorem sec_up {x0 y0 z0 x1 y1 z1 p0 q0 r0 p1 q1 r1 ax : Int} (hI : Inv x0 y0 z0 x1 y1 z1 p0 q0 r0 p1 q1 r1) : secA x0 y0 z0 x1 y1 z1 ax ≤ 4000000000000 := by
  have key : ∀ a b : Int, 0 ≤ a → a ≤ 2000000 → 0 ≤ b → b ≤ 2000000 → a * b ≤ 4000000000000 := fun a b h1 h2 h3 h4 => by
    have := Int.mul_le_mul h2 h4 h3 (by omega)
    omega
  obtain ⟨h1, h2, h3⟩ := hI
  unfold secA
  split
  · exact key _ _ (by omega) (by omega) (by omega) (by omega)
  · split
    · exact key _ _ (by omega) (by omega) (by omega) (by omega)
    · exact key _ _ (by omega) (by omega) (by omega) (by omega)
/-- What is lost, what is left, what there was. -/
def Good {S : Type} (V : Int) (vol : Int) (l : List S) (lost : Int) : Prop := 0 ≤ lost ∧ lost + vol ≤ V ∧ (l = [] → lost + vol = V)
theorem side_good {S : Type} (mk : Int → Int → Int → S) {V vol vol' A d kf ax p lost : Int} {l : List S} (hV : V ≤ 8000000000000000000) (hA : 0 ≤ A) (hd : 0 < d) (hk : 0 ≤ kf) (hv : vol = vol' + d * A) (hv' : 0 ≤ vol') (h : Good V vol l lost) :
    Good V vol' (sdL mk ax kf d p l) (IntKind.i64.wrap (lost + (if d ≤ kf then d else kf) * A)) := by
  obtain ⟨h1, h2, h3⟩ := h
  have hm0 : 0 ≤ (if d ≤ kf then d else kf) := by split <;> omega
  have hm1 : (if d ≤ kf then d else kf) ≤ d := by split <;> omega
  have hM0 : 0 ≤ (if d ≤ kf then d else kf) * A := Int.mul_nonneg hm0 hA
  have hM1 : (if d ≤ kf then d else kf) * A ≤ d * A := Int.mul_le_mul_of_nonneg_right hm1 hA
  rw [wrap_i64 (by omega) (by omega)]
  refine ⟨by omega, by omega, fun hl => ?_⟩
  unfold sdL at hl
  by_cases hc : kf < d
  · rw [if_pos hc] at hl
    simp at hl
  · rw [if_neg hc, List.append_nil] at hl
    rw [if_pos (by omega)]
    have := h3 hl
    omega
/-- The coordinates ahead of an axis are the piece's. -/
def Done (ax x0 y0 z0 x1 y1 z1 p0 q0 r0 p1 q1 r1 : Int) : Prop := (0 < ax → x0 = p0 ∧ x1 = p1) ∧ (1 < ax → y0 = q0 ∧ y1 = q1) ∧ (2 < ax → z0 = r0 ∧ z1 = r1)
theorem done_put {ax x0 y0 z0 x1 y1 z1 p0 q0 r0 p1 q1 r1 : Int} (h : inA ax = true) (hD : Done ax x0 y0 z0 x1 y1 z1 p0 q0 r0 p1 q1 r1) (u v : Int) (hu : u = gx p0 q0 r0 ax) (hv : v = gx p1 q1 r1 ax) :
    Done (ax + 1) (pX x0 ax u) (pY y0 ax u) (pZ z0 ax u) (pX x1 ax v) (pY y1 ax v) (pZ z1 ax v) p0 q0 r0 p1 q1 r1 := by
  subst hu hv
  unfold Done at hD ⊢
  rcases ax_cases h with rfl | rfl | rfl <;> simp [pX, pY, pZ, gx] at hD ⊢ <;> simp [hD]
theorem side_put {S : Type} (mk : Int → Int → Int → S) {V kf ax x0 y0 z0 x1 y1 z1 p0 q0 r0 p1 q1 r1 lost lo' hi' d p fr : Int} {l : List S} (hV : V ≤ 8000000000000000000) (hk : 0 ≤ kf) (hA : inA ax = true) (hI : Inv x0 y0 z0 x1 y1 z1 p0 q0 r0 p1 q1 r1)
    (hd : 0 < d) (hdd : d = gx x1 y1 z1 ax - gx x0 y0 z0 ax - (hi' - lo')) (hle : lo' ≤ hi') (h : Good V (volE x0 y0 z0 x1 y1 z1) l lost) :
    Good V (volE (pX x0 ax lo') (pY y0 ax lo') (pZ z0 ax lo') (pX x1 ax hi') (pY y1 ax hi') (pZ z1 ax hi')) (sdL mk ax kf d p l) (sdV x0 y0 z0 x1 y1 z1 ax kf d fr lost) := by
  unfold sdV
  rw [vol_put hA fr, vol_put hA lo' hi', show (fr + (if d ≤ kf then d else kf) - fr) = (if d ≤ kf then d else kf) by omega]
  have hn := sec_nn (ax := ax) hI
  refine side_good mk hV hn hd hk ?_ (Int.mul_nonneg (by omega) hn) h
  rw [vol_gx hA, hdd]
  grind
theorem good_tr {S : Type} (mk : Int → Int → Int → S) {V kf p0 q0 r0 p1 q1 r1 : Int} (hV : V ≤ 8000000000000000000) (hk : 0 ≤ kf) : ∀ (n : Nat) (ax x0 y0 z0 x1 y1 z1 : Int) (l : List S) (lost : Int), ax + n = 3 → 0 ≤ ax → Inv x0 y0 z0 x1 y1 z1 p0 q0 r0 p1 q1 r1 → Done ax x0 y0 z0 x1 y1 z1 p0 q0 r0 p1 q1 r1 → Good V (volE x0 y0 z0 x1 y1 z1) l lost →
    Good V (volE p0 q0 r0 p1 q1 r1) (tr mk p0 q0 r0 p1 q1 r1 kf n ax x0 y0 z0 x1 y1 z1 l lost).1 (tr mk p0 q0 r0 p1 q1 r1 kf n ax x0 y0 z0 x1 y1 z1 l lost).2
  | 0, ax, x0, y0, z0, x1, y1, z1, l, lost, ha, _, hI, hD, hG => by
    obtain ⟨d1, d2, d3⟩ := hD
    obtain ⟨rfl, rfl⟩ := d1 (by omega)
    obtain ⟨rfl, rfl⟩ := d2 (by omega)
    obtain ⟨rfl, rfl⟩ := d3 (by omega)
    exact hG
  | n + 1, ax, x0, y0, z0, x1, y1, z1, l, lost, ha, h0, hI, hD, hG => by
    have hA : inA ax = true := by simp [inA]; omega
    obtain ⟨i1, i2, i3, i4, i5⟩ := inv_gx hI ax
    obtain ⟨e1, e2, e3⟩ := put_gx (x0 := x0) (y0 := y0) (z0 := z0) (ax := ax)
    obtain ⟨e4, e5, e6⟩ := put_gx (x0 := x1) (y0 := y1) (z0 := z1) (ax := ax)
    simp only [tr]
    by_cases c3 : gx x0 y0 z0 ax < gx p0 q0 r0 ax
    · rw [if_pos c3]
      have g1 := side_put mk (d := gx p0 q0 r0 ax - gx x0 y0 z0 ax) (p := gx p0 q0 r0 ax - kf) (fr := gx x0 y0 z0 ax) hV hk hA hI (by omega) (lo' := gx p0 q0 r0 ax) (hi' := gx x1 y1 z1 ax) (by omega) (by omega) hG
      have hI1 := inv_put hI ax (gx p0 q0 r0 ax) (gx x1 y1 z1 ax) (by omega) (by omega) (by omega) (by omega)
      by_cases c4 : gx p1 q1 r1 ax < gx x1 y1 z1 ax
      · rw [if_pos c4]
        have g2 := side_put mk (d := gx x1 y1 z1 ax - gx p1 q1 r1 ax) (p := gx p1 q1 r1 ax) (fr := gx p1 q1 r1 ax) hV hk hA hI1 (by omega) (lo' := gx p0 q0 r0 ax) (hi' := gx p1 q1 r1 ax) (by rw [gx_put hA, gx_put hA]; omega) (by omega) g1
        rw [pX2, pY2, pZ2, pX2, pY2, pZ2] at g2
        exact good_tr mk hV hk n _ _ _ _ _ _ _ _ _ (by omega) (by omega) (inv_put hI ax _ _ (by omega) (by omega) (by omega) (by omega)) (done_put hA hD _ _ rfl rfl) g2
      · rw [if_neg c4]
        exact good_tr mk hV hk n _ _ _ _ _ _ _ _ _ (by omega) (by omega) hI1 (done_put hA hD _ _ rfl (by omega)) g1
    · rw [if_neg c3]
      by_cases c4 : gx p1 q1 r1 ax < gx x1 y1 z1 ax
      · rw [if_pos c4]
        have g2 := side_put mk (d := gx x1 y1 z1 ax - gx p1 q1 r1 ax) (p := gx p1 q1 r1 ax) (fr := gx p1 q1 r1 ax) hV hk hA hI (by omega) (lo' := gx p0 q0 r0 ax) (hi' := gx p1 q1 r1 ax) (by omega) (by omega) hG
        exact good_tr mk hV hk n _ _ _ _ _ _ _ _ _ (by omega) (by omega) (inv_put hI ax _ _ (by omega) (by omega) (by omega) (by omega)) (done_put hA hD _ _ rfl rfl) g2
      · rw [if_neg c4]
        have hD1 := done_put hA hD (gx x0 y0 z0 ax) (gx x1 y1 z1 ax) (by omega) (by omega)
        rw [e1, e2, e3, e4, e5, e6] at hD1
        exact good_tr mk hV hk n _ _ _ _ _ _ _ _ _ (by omega) (by omega) hI hD1 hG
theorem tr_len {S : Type} (mk : Int → Int → Int → S) (p0 q0 r0 p1 q1 r1 kf : Int) : ∀ (n : Nat) (ax x0 y0 z0 x1 y1 z1 : Int) (l : List S) (lost : Int), (tr mk p0 q0 r0 p1 q1 r1 kf n ax x0 y0 z0 x1 y1 z1 l lost).1.length ≤ l.length + 2 * n
  | 0, _, _, _, _, _, _, _, _, _ => by simp [tr]
  | n + 1, ax, x0, y0, z0, x1, y1, z1, l, lost => by
    simp only [tr]
    split
    · split
      · refine Nat.le_trans (tr_len mk p0 q0 r0 p1 q1 r1 kf n _ _ _ _ _ _ _ _ _) ?_
        have h1 := sdL_len mk ax kf (gx x1 y1 z1 ax - gx p1 q1 r1 ax) (gx p1 q1 r1 ax) (sdL mk ax kf (gx p0 q0 r0 ax - gx x0 y0 z0 ax) (gx p0 q0 r0 ax - kf) l)
        have h2 := sdL_len mk ax kf (gx p0 q0 r0 ax - gx x0 y0 z0 ax) (gx p0 q0 r0 ax - kf) l
        omega
      · refine Nat.le_trans (tr_len mk p0 q0 r0 p1 q1 r1 kf n _ _ _ _ _ _ _ _ _) ?_
        have h2 := sdL_len mk ax kf (gx p0 q0 r0 ax - gx x0 y0 z0 ax) (gx p0 q0 r0 ax - kf) l
        omega
    · split
      · refine Nat.le_trans (tr_len mk p0 q0 r0 p1 q1 r1 kf n _ _ _ _ _ _ _ _ _) ?_
        have h1 := sdL_len mk ax kf (gx x1 y1 z1 ax - gx p1 q1 r1 ax) (gx p1 q1 r1 ax) l
        omega
      · refine Nat.le_trans (tr_len mk p0 q0 r0 p1 q1 r1 kf n _ _ _ _ _ _ _ _ _) ?_
        omega
theorem tr_self {S : Type} (mk : Int → Int → Int → S) (p0 q0 r0 p1 q1 r1 kf : Int) : ∀ (n : Nat) (ax : Int) (l : List S) (lost : Int), tr mk p0 q0 r0 p1 q1 r1 kf n ax p0 q0 r0 p1 q1 r1 l lost = (l, lost)
  | 0, _, _, _ => rfl
  | n + 1, ax, l, lost => by
    simp only [tr]
    rw [if_neg (by omega), if_neg (by omega)]
    exact tr_self mk p0 q0 r0 p1 q1 r1 kf n _ l lost
theorem vol_bd {x0 y0 z0 x1 y1 z1 p0 q0 r0 p1 q1 r1 : Int} (h : Inv x0 y0 z0 x1 y1 z1 p0 q0 r0 p1 q1 r1) : 0 ≤ volE x0 y0 z0 x1 y1 z1 ∧ volE x0 y0 z0 x1 y1 z1 ≤ 8000000000000000000 := by
  have hA : inA 0 = true := by decide
  have h1 := sec_nn (ax := 0) h
  have h2 := sec_up (ax := 0) h
  obtain ⟨i1, i2, i3, i4, i5⟩ := inv_gx h 0
  rw [vol_gx hA]
  have h3 := Int.mul_nonneg (show 0 ≤ gx x1 y1 z1 0 - gx x0 y0 z0 0 by omega) h1
  have h4 := Int.mul_le_mul (show gx x1 y1 z1 0 - gx x0 y0 z0 0 ≤ 2000000 by omega) h2 h1 (by omega)
  omega
end Go.Proofs.Ytdfcphfoccgopaa.KT
