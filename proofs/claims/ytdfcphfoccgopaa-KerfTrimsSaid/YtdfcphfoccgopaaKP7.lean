/- The kerf seat: the reference's Trim, in plain Lean: what the printed functions compute. -/
import Derived.Test.YtdfcphfoccgopaaQT5
import Derived.Test.YtdfcphfoccgopaaKTp
namespace Go.Proofs.Ytdfcphfoccgopaa.QT
open Go.Sx Go.RowKit KT Go.Proofs.YtdfcphfoccgopaaW.PrintWords Go.Proofs.YtdfcphfoccgopaaW.PrintMore
set_option linter.unusedVariables false
set_option linter.unusedSimpArgs false
theorem w64 {n : Int} (h1 : -9223372036854775808 ≤ n) (h2 : n ≤ 9223372036854775807) : wrap64 n = n := by unfold wrap64; omega
theorem wr64 (n : Int) : wrap64 n = IntKind.i64.wrap n := by rw [IntKind.wrap_i64]; unfold wrap64; omega
def m27 (a b c : Int) : S27 := ⟨a, b, c⟩
theorem rvol0 {x0 y0 z0 x1 y1 z1 : Int} (hx : 0 ≤ x1 - x0 ∧ x1 - x0 ≤ 2000000) (hy : 0 ≤ y1 - y0 ∧ y1 - y0 ≤ 2000000) (hz : 0 ≤ z1 - z0 ∧ z1 - z0 ≤ 2000000) : R_Volume.f x0 y0 z0 x1 y1 z1 = some (volE x0 y0 z0 x1 y1 z1) := by
  unfold R_Volume.f volE
  rw [w64 (n := x1 - x0) (by omega) (by omega), w64 (n := y1 - y0) (by omega) (by omega), w64 (n := z1 - z0) (by omega) (by omega)]
  generalize x1 - x0 = dx at *
  generalize y1 - y0 = dy at *
  generalize z1 - z0 = dz at *
  have h1 := Int.mul_nonneg hx.1 hy.1
  have h2 := Int.mul_le_mul hx.2 hy.2 hy.1 (by omega)
  have h3 := Int.mul_nonneg h1 hz.1
  have h4 := Int.mul_le_mul h2 hz.2 hz.1 (by omega)
  rw [w64 (n := dx * dy) (by omega) (by omega), w64 (n := dx * dy * dz) (by omega) (by omega)]
theorem rvol {x0 y0 z0 x1 y1 z1 p0 q0 r0 p1 q1 r1 ax : Int} (hI : Inv x0 y0 z0 x1 y1 z1 p0 q0 r0 p1 q1 r1) (hA : inA ax = true) (u v : Int) (h : 0 ≤ v - u ∧ v - u ≤ 2000000) :
    R_Volume.f (pX x0 ax u) (pY y0 ax u) (pZ z0 ax u) (pX x1 ax v) (pY y1 ax v) (pZ z1 ax v) = some ((v - u) * secA x0 y0 z0 x1 y1 z1 ax) := by
  obtain ⟨h1, h2, h3⟩ := hI
  rw [rvol0, vol_put hA]
  all_goals rcases ax_cases hA with rfl | rfl | rfl <;> simp [pX, pY, pZ] <;> omega
theorem mn_eq (a b : Int) : mn a b = if a ≤ b then a else b := by
  unfold mn
  split <;> split <;> omega
theorem rt {p0 q0 r0 p1 q1 r1 kf : Int} (hk0 : 0 ≤ kf) (hk1 : kf ≤ 1000) : ∀ (n fuel : Nat) (ax x0 y0 z0 x1 y1 z1 : Int) (l : List S27) (lost : Int), ax + n = 3 → 0 ≤ ax → Inv x0 y0 z0 x1 y1 z1 p0 q0 r0 p1 q1 r1 → l.length + 2 * n ≤ 6 → 2 * n < fuel →
    R_Trim.l0 fuel kf l lost ax x0 y0 z0 x1 y1 z1 p0 q0 r0 p1 q1 r1 = some (tr m27 p0 q0 r0 p1 q1 r1 kf n ax x0 y0 z0 x1 y1 z1 l lost)
  | 0, fuel, ax, x0, y0, z0, x1, y1, z1, l, lost, ha, _, hI, hl, hf => by
    obtain ⟨f, rfl⟩ : ∃ f, fuel = f + 1 := ⟨fuel - 1, by omega⟩
    simp only [R_Trim.l0, tr]
    rw [if_neg (by omega)]
  | n + 1, fuel, ax, x0, y0, z0, x1, y1, z1, l, lost, ha, h0, hI, hl, hf => by
    obtain ⟨f, rfl⟩ : ∃ f, fuel = f + 2 := ⟨fuel - 2, by omega⟩
    have hA : inA ax = true := by simp [inA]; omega
    obtain ⟨i1, i2, i3, i4, i5⟩ := inv_gx hI ax
    obtain ⟨e1, e2, e3⟩ := put_gx (x0 := x0) (y0 := y0) (z0 := z0) (ax := ax)
    obtain ⟨e4, e5, e6⟩ := put_gx (x0 := x1) (y0 := y1) (z0 := z1) (ax := ax)
    have hw1 : wrap64 (gx p0 q0 r0 ax - gx x0 y0 z0 ax) = gx p0 q0 r0 ax - gx x0 y0 z0 ax := w64 (by omega) (by omega)
    have hw2 : wrap64 (gx p0 q0 r0 ax - kf) = gx p0 q0 r0 ax - kf := w64 (by omega) (by omega)
    have hw3 : wrap64 (gx x1 y1 z1 ax - gx p1 q1 r1 ax) = gx x1 y1 z1 ax - gx p1 q1 r1 ax := w64 (by omega) (by omega)
    have hw4 : wrap64 (ax + 1) = ax + 1 := w64 (by omega) (by omega)
    have hw5 : wrap64 (gx p0 q0 r0 ax - (if gx p0 q0 r0 ax - gx x0 y0 z0 ax ≤ kf then gx p0 q0 r0 ax - gx x0 y0 z0 ax else kf)) = gx p0 q0 r0 ax - (if gx p0 q0 r0 ax - gx x0 y0 z0 ax ≤ kf then gx p0 q0 r0 ax - gx x0 y0 z0 ax else kf) := w64 (by split <;> omega) (by split <;> omega)
    have hw6 : wrap64 (gx p1 q1 r1 ax + (if gx x1 y1 z1 ax - gx p1 q1 r1 ax ≤ kf then gx x1 y1 z1 ax - gx p1 q1 r1 ax else kf)) = gx p1 q1 r1 ax + (if gx x1 y1 z1 ax - gx p1 q1 r1 ax ≤ kf then gx x1 y1 z1 ax - gx p1 q1 r1 ax else kf) := w64 (by split <;> omega) (by split <;> omega)
    -- the second side
    have side2 : ∀ (a0 b0 c0 : Int) (l : List S27) (lost : Int), l.length < 6 → Inv a0 b0 c0 x1 y1 z1 p0 q0 r0 p1 q1 r1 → (gx p1 q1 r1 ax < gx x1 y1 z1 ax) →
        R_Trim.j1 (f + 1) kf l lost ax (gx p1 q1 r1 ax) a0 b0 c0 x1 y1 z1 p0 q0 r0 p1 q1 r1 = R_Trim.l0 f kf (sdL m27 ax kf (gx x1 y1 z1 ax - gx p1 q1 r1 ax) (gx p1 q1 r1 ax) l) (sdV a0 b0 c0 x1 y1 z1 ax kf (gx x1 y1 z1 ax - gx p1 q1 r1 ax) (gx p1 q1 r1 ax) lost) (ax + 1) a0 b0 c0 (pX x1 ax (gx p1 q1 r1 ax)) (pY y1 ax (gx p1 q1 r1 ax)) (pZ z1 ax (gx p1 q1 r1 ax)) p0 q0 r0 p1 q1 r1 := by
      intro a0 b0 c0 l lost hl hI c4
      simp only [R_Trim.j1, R_Get.f, R_Put.f, Option.bind_some, rGet0, rPut0, rPut1, rPut2, hw3, mn_eq, hw6]
      rw [if_pos (by omega), rvol hI hA _ _ (by split <;> omega)]
      simp only [Option.bind_some, hw4]
      unfold sdV sdL
      rw [vol_put hA, wr64]
      by_cases c5 : kf < gx x1 y1 z1 ax - gx p1 q1 r1 ax
      · rw [if_pos (by omega), if_pos (by omega), if_pos c5]
        rfl
      · rw [if_neg (by omega), if_neg c5, List.append_nil]
    have side2n : ∀ (a0 b0 c0 : Int) (l : List S27) (lost : Int), ¬ (gx p1 q1 r1 ax < gx x1 y1 z1 ax) →
        R_Trim.j1 (f + 1) kf l lost ax (gx p1 q1 r1 ax) a0 b0 c0 x1 y1 z1 p0 q0 r0 p1 q1 r1 = R_Trim.l0 f kf l lost (ax + 1) a0 b0 c0 x1 y1 z1 p0 q0 r0 p1 q1 r1 := by
      intro a0 b0 c0 l lost c4
      simp only [R_Trim.j1, R_Get.f, R_Put.f, Option.bind_some, rGet0, rPut0, rPut1, rPut2, hw3, mn_eq, hw6, hw4]
      rw [if_neg (by omega)]
    have hL := sdL_len m27 ax kf (gx p0 q0 r0 ax - gx x0 y0 z0 ax) (gx p0 q0 r0 ax - kf) l
    have hI1 := inv_put hI ax (gx p0 q0 r0 ax) (gx x1 y1 z1 ax) (by omega) (by omega) (by omega) (by omega)
    rw [e4, e5, e6] at hI1
    have hI2 := inv_put hI ax (gx p0 q0 r0 ax) (gx p1 q1 r1 ax) (by omega) (by omega) (by omega) (by omega)
    rw [show f + 2 = (f + 1) + 1 from rfl]
    simp only [R_Trim.l0, tr, R_Get.f, R_Put.f, Option.bind_some, rGet0, rPut0, rPut1, rPut2, hw1, hw2, mn_eq, hw5]
    rw [if_pos (show ax < 3 by omega)]
    by_cases c3 : gx x0 y0 z0 ax < gx p0 q0 r0 ax
    · rw [if_pos (show gx p0 q0 r0 ax - gx x0 y0 z0 ax > 0 by omega), if_pos c3, rvol hI hA _ _ (by split <;> omega)]
      have first : ∀ (g : List S27 → Int → Option (List S27 × Int)),
          ((some ((gx p0 q0 r0 ax - (gx p0 q0 r0 ax - if gx p0 q0 r0 ax - gx x0 y0 z0 ax ≤ kf then gx p0 q0 r0 ax - gx x0 y0 z0 ax else kf)) * secA x0 y0 z0 x1 y1 z1 ax)).bind fun t130 => if gx p0 q0 r0 ax - gx x0 y0 z0 ax > kf then (if l.length < 5864062014805 then g (l ++ [⟨ax, gx p0 q0 r0 ax - kf, kf⟩]) (wrap64 (lost + t130)) else none) else g l (wrap64 (lost + t130))) =
          g (sdL m27 ax kf (gx p0 q0 r0 ax - gx x0 y0 z0 ax) (gx p0 q0 r0 ax - kf) l) (sdV x0 y0 z0 x1 y1 z1 ax kf (gx p0 q0 r0 ax - gx x0 y0 z0 ax) (gx x0 y0 z0 ax) lost) := by
        intro g
        simp only [Option.bind_some]
        unfold sdV sdL
        rw [vol_put hA, wr64]
        have ee : ∀ m : Int, gx p0 q0 r0 ax - (gx p0 q0 r0 ax - m) = gx x0 y0 z0 ax + m - gx x0 y0 z0 ax := fun m => by omega
        rw [ee]
        by_cases c5 : kf < gx p0 q0 r0 ax - gx x0 y0 z0 ax
        · rw [if_pos (by omega), if_pos (by omega), if_pos c5]
          rfl
        · rw [if_neg (by omega), if_neg c5, List.append_nil]
      rw [first (fun l' lost' => R_Trim.j1 (f + 1) kf l' lost' ax (gx p1 q1 r1 ax) (pX x0 ax (gx p0 q0 r0 ax)) (pY y0 ax (gx p0 q0 r0 ax)) (pZ z0 ax (gx p0 q0 r0 ax)) x1 y1 z1 p0 q0 r0 p1 q1 r1)]
      by_cases c4 : gx p1 q1 r1 ax < gx x1 y1 z1 ax
      · rw [if_pos c4, side2 _ _ _ _ _ (by omega) hI1 c4, e4, e5, e6]
        have hL2 := sdL_len m27 ax kf (gx x1 y1 z1 ax - gx p1 q1 r1 ax) (gx p1 q1 r1 ax) (sdL m27 ax kf (gx p0 q0 r0 ax - gx x0 y0 z0 ax) (gx p0 q0 r0 ax - kf) l)
        exact rt hk0 hk1 n f _ _ _ _ _ _ _ _ _ (by omega) (by omega) hI2 (by omega) (by omega)
      · rw [if_neg c4, side2n _ _ _ _ _ c4, e4, e5, e6]
        exact rt hk0 hk1 n f _ _ _ _ _ _ _ _ _ (by omega) (by omega) hI1 (by omega) (by omega)
    · rw [if_neg (show ¬ gx p0 q0 r0 ax - gx x0 y0 z0 ax > 0 by omega), if_neg c3]
      have hb : gx p0 q0 r0 ax = gx x0 y0 z0 ax := by omega
      by_cases c4 : gx p1 q1 r1 ax < gx x1 y1 z1 ax
      · rw [if_pos c4, side2 _ _ _ _ _ (by omega) hI c4]
        rw [hb, e1, e2, e3] at hI2 ⊢
        have hL2 := sdL_len m27 ax kf (gx x1 y1 z1 ax - gx p1 q1 r1 ax) (gx p1 q1 r1 ax) l
        exact rt hk0 hk1 n f _ _ _ _ _ _ _ _ _ (by omega) (by omega) hI2 (by omega) (by omega)
      · rw [if_neg c4, side2n _ _ _ _ _ c4]
        exact rt hk0 hk1 n f _ _ _ _ _ _ _ _ _ (by omega) (by omega) hI (by omega) (by omega)
theorem rtrim {a0 b0 c0 a1 b1 c1 p0 q0 r0 p1 q1 r1 kf : Int} (hk0 : 0 ≤ kf) (hk1 : kf ≤ 1000) (hI : Inv a0 b0 c0 a1 b1 c1 p0 q0 r0 p1 q1 r1) {k : Nat} (hk : 6 < k) :
    R_Trim.f k a0 b0 c0 a1 b1 c1 p0 q0 r0 p1 q1 r1 kf = some (tr m27 p0 q0 r0 p1 q1 r1 kf 3 0 a0 b0 c0 a1 b1 c1 [] 0) := by
  unfold R_Trim.f
  exact rt hk0 hk1 3 k 0 a0 b0 c0 a1 b1 c1 [] 0 (by omega) (by omega) hI (by simp) hk
abbrev T3 := Int × Int × Int
def f27 (t : T3) : S27 := ⟨t.1, t.2.1, t.2.2⟩
def f33 (t : T3) : S33 := ⟨t.1, t.2.1, t.2.2⟩
theorem sloop (L : List T3) (hm : L.length ≤ 6) : ∀ (d j fuel : Nat), L.length = j + d → d < fuel → L_same.l0 fuel (L.map f33) (L.map f27) j = some true
  | 0, j, f + 1, hj, _ => by
    simp only [L_same.l0, List.length_map]
    rw [if_neg (by omega)]
  | d + 1, j, f + 1, hj, hf => by
    have ih := sloop L hm d (j + 1) f (by omega) (by omega)
    have hlt : j < L.length := by omega
    have h1 : rd_T33 (L.map f33) j = f33 L[j] := by simp [rd_T33, rdOf, hlt]
    have h2 : rd_T27 (L.map f27) j = f27 L[j] := by simp [rd_T27, rdOf, hlt]
    simp only [L_same.l0, List.length_map, L_ours.f, Option.bind_some]
    rw [if_pos (by omega), if_pos (by omega), if_pos (by omega), h1, h2, w64 (n := (j : Int) + 1) (by omega) (by omega)]
    simp [f33, f27]
    exact ih
  | d, j, 0, _, hf => by omega
theorem ssame (L : List T3) (hm : L.length ≤ 6) {k : Nat} (hk : 7 ≤ k) : L_same.f k (L.map f33) (L.map f27) = some true := by
  unfold L_same.f
  rw [List.length_map, List.length_map, if_pos rfl]
  exact sloop L hm L.length 0 k (by omega) (by omega)
theorem inside_eq (p0 q0 r0 p1 q1 r1 a0 b0 c0 a1 b1 c1 : Int) (k : Nat) : R_Inside.f (k + 4) p0 q0 r0 p1 q1 r1 a0 b0 c0 a1 b1 c1 = some (insE p0 q0 r0 p1 q1 r1 a0 b0 c0 a1 b1 c1) := by
  have w1 : wrap64 (0 + 1) = 1 := by rw [w64 (by omega) (by omega)]; rfl
  have w2 : wrap64 (1 + 1) = 2 := by rw [w64 (by omega) (by omega)]; rfl
  have w3 : wrap64 (2 + 1) = 3 := by rw [w64 (by omega) (by omega)]; rfl
  simp only [R_Inside.f, R_Inside.l0, R_Get.f, rGet0, Option.bind_some, w1, w2, w3]
  simp only [gx, insE]
  simp
  grind
theorem bad2 (k : Nat) (kf e a0 b0 c0 a1 b1 c1 p0 q0 r0 p1 q1 r1 : Int) (he : e ≠ 0) : L_KerfTrims.j2 (k + 3) kf [] 0 e e a0 b0 c0 a1 b1 c1 p0 q0 r0 p1 q1 r1 = some true := by
  simp [L_KerfTrims.j2, L_KerfTrims.j3, L_KerfTrims.j4, he]
theorem bad0 (k : Nat) (kf e a0 b0 c0 a1 b1 c1 p0 q0 r0 p1 q1 r1 : Int) (he : e ≠ 0) : L_KerfTrims.j0 (k + 5) kf [] 0 e e a0 b0 c0 a1 b1 c1 p0 q0 r0 p1 q1 r1 = some true := by
  simp only [L_KerfTrims.j0, L_KerfTrims.j1]
  rw [if_neg he]
  simp [bad2, he]
theorem law7 (a0 b0 c0 a1 b1 c1 p0 q0 r0 p1 q1 r1 kf : Int) : L_KerfTrims.f 40 a0 b0 c0 a1 b1 c1 p0 q0 r0 p1 q1 r1 kf = some true := by
  unfold L_KerfTrims.f L_awake.f
  simp only [Option.bind_some, if_true, K_Trim.f, R_Check.f, rBck0]
  by_cases hE : trE a0 b0 c0 a1 b1 c1 p0 q0 r0 p1 q1 r1 kf = 0
  · have h1 : firstE [chkB a0 b0 c0 a1 b1 c1, chkB p0 q0 r0 p1 q1 r1, swn0 kf] = 0 := by
      apply Decidable.by_contra
      intro hn
      unfold trE at hE
      rw [if_neg hn] at hE
      exact hn hE
    have h2 : insE p0 q0 r0 p1 q1 r1 a0 b0 c0 a1 b1 c1 = true := by
      apply Decidable.by_contra
      intro hn
      unfold trE at hE
      rw [if_pos h1, if_neg hn] at hE
      omega
    obtain ⟨hI, hk0, hk1⟩ := inv_of h1 h2
    have hc : chkB a0 b0 c0 a1 b1 c1 = 0 ∧ chkB p0 q0 r0 p1 q1 r1 = 0 := by
      simp only [firstE] at h1
      constructor <;> (apply Decidable.by_contra; intro hn) <;> (repeat' (split at h1)) <;> omega
    have hL : trL (fun a b c => (⟨a, b, c⟩ : S33)) a0 b0 c0 a1 b1 c1 p0 q0 r0 p1 q1 r1 kf = (tr (fun a b c => ((a, b, c) : T3)) p0 q0 r0 p1 q1 r1 kf 3 0 a0 b0 c0 a1 b1 c1 [] 0).1.map f33 := by
      unfold trL
      rw [if_pos hE]
      have := tr_map f33 (fun a b c => ((a, b, c) : T3)) (fun a b c => (⟨a, b, c⟩ : S33)) (fun _ _ _ => rfl) p0 q0 r0 p1 q1 r1 kf 3 0 a0 b0 c0 a1 b1 c1 [] 0
      rw [List.map_nil] at this
      rw [this]
    have hV : trV a0 b0 c0 a1 b1 c1 p0 q0 r0 p1 q1 r1 kf = (tr (fun a b c => ((a, b, c) : T3)) p0 q0 r0 p1 q1 r1 kf 3 0 a0 b0 c0 a1 b1 c1 [] 0).2 := if_pos hE
    have hR := tr_map f27 (fun a b c => ((a, b, c) : T3)) m27 (fun _ _ _ => rfl) p0 q0 r0 p1 q1 r1 kf 3 0 a0 b0 c0 a1 b1 c1 [] 0
    rw [List.map_nil] at hR
    have hlen := tr_len (fun a b c => ((a, b, c) : T3)) p0 q0 r0 p1 q1 r1 kf 3 0 a0 b0 c0 a1 b1 c1 [] 0
    rw [hL, hV, hE, hc.1, hc.2, if_pos rfl]
    generalize tr (fun a b c => ((a, b, c) : T3)) p0 q0 r0 p1 q1 r1 kf 3 0 a0 b0 c0 a1 b1 c1 [] 0 = R at *
    have hK : R_Kerf.f kf = some true := by
      unfold R_Kerf.f
      rw [if_pos hk0]
      simp [hk1]
    simp only [L_KerfTrims.j0, L_KerfTrims.j1, L_KerfTrims.j2, L_KerfTrims.j3, L_KerfTrims.j4, hK, Option.bind_some, if_true, Bool.not_true, Bool.false_eq_true, if_false]
    have hin : R_Inside.f 37 p0 q0 r0 p1 q1 r1 a0 b0 c0 a1 b1 c1 = some true := (inside_eq p0 q0 r0 p1 q1 r1 a0 b0 c0 a1 b1 c1 33).trans (by rw [h2])
    simp only [hin, Option.bind_some, Bool.not_true, Bool.false_eq_true, if_false, if_true]
    rw [rtrim hk0 hk1 hI (by omega), hR]
    simp only [Option.bind_some]
    rw [ssame R.1 (by simpa using hlen) (by omega)]
    simp
  · have hL : trL (fun a b c => (⟨a, b, c⟩ : S33)) a0 b0 c0 a1 b1 c1 p0 q0 r0 p1 q1 r1 kf = [] := if_neg hE
    have hV : trV a0 b0 c0 a1 b1 c1 p0 q0 r0 p1 q1 r1 kf = 0 := if_neg hE
    rw [hL, hV]
    by_cases hA : chkB a0 b0 c0 a1 b1 c1 = 0
    · rw [if_pos hA]
      by_cases hB : chkB p0 q0 r0 p1 q1 r1 = 0
      · by_cases hK : inK kf = true
        · have hS : swn0 kf = 0 := if_pos hK
          have h1 : firstE [chkB a0 b0 c0 a1 b1 c1, chkB p0 q0 r0 p1 q1 r1, swn0 kf] = 0 := by simp [firstE, hA, hB, hS]
          have h2 : insE p0 q0 r0 p1 q1 r1 a0 b0 c0 a1 b1 c1 = false := by
            cases hh : insE p0 q0 r0 p1 q1 r1 a0 b0 c0 a1 b1 c1 with
            | false => rfl
            | true => exact absurd (by unfold trE; rw [if_pos h1, if_pos hh]) hE
          have h3 : trE a0 b0 c0 a1 b1 c1 p0 q0 r0 p1 q1 r1 kf = 12 := by
            unfold trE
            rw [if_pos h1, h2]
            rfl
          have hKf : R_Kerf.f kf = some true := by
            simp only [inK, Bool.and_eq_true, decide_eq_true_eq] at hK
            unfold R_Kerf.f
            rw [if_pos hK.1]
            simp [hK.2]
          rw [h3, hB]
          simp only [L_KerfTrims.j0, L_KerfTrims.j1, L_KerfTrims.j2, L_KerfTrims.j3, L_KerfTrims.j4, hKf, Option.bind_some, if_true, Bool.not_true, Bool.false_eq_true, if_false]
          have hin : R_Inside.f 37 p0 q0 r0 p1 q1 r1 a0 b0 c0 a1 b1 c1 = some false := (inside_eq p0 q0 r0 p1 q1 r1 a0 b0 c0 a1 b1 c1 33).trans (by rw [h2])
          simp only [hin, Option.bind_some, Bool.not_false, if_true]
          simp
        · have h3 : trE a0 b0 c0 a1 b1 c1 p0 q0 r0 p1 q1 r1 kf = 6 := by
            unfold trE
            simp [firstE, hA, hB, swn0, hK]
          have hKf : R_Kerf.f kf = some false := by
            simp only [inK, Bool.and_eq_true, decide_eq_true_eq] at hK
            unfold R_Kerf.f
            split
            · simp; omega
            · rfl
          rw [h3, hB]
          simp only [L_KerfTrims.j0, L_KerfTrims.j1, hKf, Option.bind_some, if_true, Bool.not_false]
          exact bad2 _ _ _ _ _ _ _ _ _ _ _ _ _ _ _ (by decide)
      · have h3 : trE a0 b0 c0 a1 b1 c1 p0 q0 r0 p1 q1 r1 kf = chkB p0 q0 r0 p1 q1 r1 := by
          unfold trE
          simp [firstE, hA, hB]
        rw [h3]
        exact bad0 _ _ _ _ _ _ _ _ _ _ _ _ _ _ _ hB
    · rw [if_neg hA]
      have h3 : trE a0 b0 c0 a1 b1 c1 p0 q0 r0 p1 q1 r1 kf = chkB a0 b0 c0 a1 b1 c1 := by
        unfold trE
        simp [firstE, hA]
      rw [h3]
      exact bad0 _ _ _ _ _ _ _ _ _ _ _ _ _ _ _ hA
end Go.Proofs.Ytdfcphfoccgopaa.QT
