/- The kerf seat: Trim's cuts and loss fill the box, in plain Lean. -/
import Derived.Test.YtdfcphfoccgopaaQT7
import Derived.Test.YtdfcphfoccgopaaKTp
namespace Go.Proofs.Ytdfcphfoccgopaa.QT
open Go.Sx Go.RowKit KT Go.Proofs.YtdfcphfoccgopaaW.PrintWords Go.Proofs.YtdfcphfoccgopaaW.PrintMore
set_option linter.unusedVariables false
set_option linter.unusedSimpArgs false
theorem w64b {n : Int} (h1 : -9223372036854775808 ≤ n) (h2 : n ≤ 9223372036854775807) : wrap64 n = n := by unfold wrap64; omega
theorem lvol {x0 y0 z0 x1 y1 z1 : Int} (hx : 0 ≤ x1 - x0 ∧ x1 - x0 ≤ 2000000) (hy : 0 ≤ y1 - y0 ∧ y1 - y0 ≤ 2000000) (hz : 0 ≤ z1 - z0 ∧ z1 - z0 ≤ 2000000) : L_volume.f x0 y0 z0 x1 y1 z1 = some (volE x0 y0 z0 x1 y1 z1) := by
  unfold L_volume.f volE
  rw [w64b (n := x1 - x0) (by omega) (by omega), w64b (n := y1 - y0) (by omega) (by omega), w64b (n := z1 - z0) (by omega) (by omega)]
  generalize x1 - x0 = dx at *
  generalize y1 - y0 = dy at *
  generalize z1 - z0 = dz at *
  have h1 := Int.mul_nonneg hx.1 hy.1
  have h2 := Int.mul_le_mul hx.2 hy.2 hy.1 (by omega)
  have h3 := Int.mul_nonneg h1 hz.1
  have h4 := Int.mul_le_mul h2 hz.2 hz.1 (by omega)
  rw [w64b (n := dx * dy) (by omega) (by omega), w64b (n := dx * dy * dz) (by omega) (by omega)]
theorem law11 (a0 b0 c0 a1 b1 c1 p0 q0 r0 p1 q1 r1 kf : Int) : L_KerfTrimmed.f 40 a0 b0 c0 a1 b1 c1 p0 q0 r0 p1 q1 r1 kf = some true := by
  unfold L_KerfTrimmed.f L_awake.f
  simp only [Option.bind_some, if_true, K_Trim.f]
  by_cases hE : trE a0 b0 c0 a1 b1 c1 p0 q0 r0 p1 q1 r1 kf = 0
  · have h1 : firstE [chkB a0 b0 c0 a1 b1 c1, chkB p0 q0 r0 p1 q1 r1, swn0 kf] = 0 := by
      apply Decidable.by_contra
      intro hn
      unfold trE at hE
      rw [if_neg hn] at hE
      exact hn hE
    have h2 : insE p0 q0 r0 p1 q1 r1 a0 b0 c0 a1 b1 c1 = true := by
      apply Decidable.by_contra
      intro hn
      unfold trE at hE
      rw [if_pos h1, if_neg hn] at hE
      omega
    obtain ⟨hI, hk0, hk1⟩ := inv_of h1 h2
    have hc : chkB a0 b0 c0 a1 b1 c1 = 0 ∧ swn0 kf = 0 := by
      simp only [firstE] at h1
      constructor <;> (apply Decidable.by_contra; intro hn) <;> (repeat' (split at h1)) <;> omega
    have hE2 : trE a0 b0 c0 a1 b1 c1 a0 b0 c0 a1 b1 c1 kf = 0 := by
      unfold trE
      rw [if_pos (by simp [firstE, hc.1, hc.2]), if_pos (by simp [insE])]
    have hL2 : trL (fun a b c => (⟨a, b, c⟩ : S33)) a0 b0 c0 a1 b1 c1 a0 b0 c0 a1 b1 c1 kf = [] := by
      unfold trL
      rw [if_pos hE2, tr_self]
    have hV2 : trV a0 b0 c0 a1 b1 c1 a0 b0 c0 a1 b1 c1 kf = 0 := by
      unfold trV
      rw [if_pos hE2, tr_self]
    have hb := vol_bd hI
    have hG := good_tr (fun a b c => (⟨a, b, c⟩ : S33)) (V := volE a0 b0 c0 a1 b1 c1) hb.2 hk0 3 0 a0 b0 c0 a1 b1 c1 [] 0 (by omega) (by omega) hI ⟨by omega, by omega, by omega⟩ ⟨by omega, by omega, fun _ => by omega⟩
    have hlen := tr_len (fun a b c => (⟨a, b, c⟩ : S33)) p0 q0 r0 p1 q1 r1 kf 3 0 a0 b0 c0 a1 b1 c1 [] 0
    have hL : trL (fun a b c => (⟨a, b, c⟩ : S33)) a0 b0 c0 a1 b1 c1 p0 q0 r0 p1 q1 r1 kf = (tr (fun a b c => (⟨a, b, c⟩ : S33)) p0 q0 r0 p1 q1 r1 kf 3 0 a0 b0 c0 a1 b1 c1 [] 0).1 := if_pos hE
    have hV : trV a0 b0 c0 a1 b1 c1 p0 q0 r0 p1 q1 r1 kf = (tr (fun a b c => (⟨a, b, c⟩ : S33)) p0 q0 r0 p1 q1 r1 kf 3 0 a0 b0 c0 a1 b1 c1 [] 0).2 := by
      unfold trV
      rw [if_pos hE]
      exact tr_snd _ _ _ _ _ _ _ _ _ _ _ _ _ _ _ _ _ _ _ _
    have hvb : L_volume.f a0 b0 c0 a1 b1 c1 = some (volE a0 b0 c0 a1 b1 c1) := by
      obtain ⟨i1, i2, i3⟩ := hI
      exact lvol (by omega) (by omega) (by omega)
    have hvp : L_volume.f p0 q0 r0 p1 q1 r1 = some (volE p0 q0 r0 p1 q1 r1) := by
      obtain ⟨i1, i2, i3⟩ := hI
      exact lvol (by omega) (by omega) (by omega)
    have hpp : 0 ≤ volE p0 q0 r0 p1 q1 r1 := by
      obtain ⟨i1, i2, i3⟩ := hI
      exact Int.mul_nonneg (Int.mul_nonneg (by omega) (by omega)) (by omega)
    rw [hL, hV, hE, hE2, hL2, hV2]
    generalize tr (fun a b c => (⟨a, b, c⟩ : S33)) p0 q0 r0 p1 q1 r1 kf 3 0 a0 b0 c0 a1 b1 c1 [] 0 = R at *
    obtain ⟨g1, g2, g3⟩ := hG
    simp only [List.length_nil] at hlen
    have hw : wrap64 (volE a0 b0 c0 a1 b1 c1 - volE p0 q0 r0 p1 q1 r1) = volE a0 b0 c0 a1 b1 c1 - volE p0 q0 r0 p1 q1 r1 := w64b (by omega) (by omega)
    have hw2 : wrap64 (volE p0 q0 r0 p1 q1 r1 + R.2) = volE p0 q0 r0 p1 q1 r1 + R.2 := w64b (by omega) (by omega)
    rw [if_pos rfl, if_pos rfl, if_pos (by simp), if_pos rfl, if_neg (by omega), if_neg (by omega), hvb, hvp]
    simp only [Option.bind_some, hw, L_KerfTrimmed.j0]
    rw [if_neg (by simp; omega)]
    by_cases hz : (R.1.length : Int) > 0
    · rw [if_pos hz]
    · rw [if_neg hz, hvb, hvp]
      have : R.1 = [] := List.length_eq_zero_iff.mp (by omega)
      have := g3 this
      simp only [Option.bind_some, hw2]
      rw [show volE p0 q0 r0 p1 q1 r1 + R.2 = volE a0 b0 c0 a1 b1 c1 by omega]
      simp
  · have hL : trL (fun a b c => (⟨a, b, c⟩ : S33)) a0 b0 c0 a1 b1 c1 p0 q0 r0 p1 q1 r1 kf = [] := if_neg hE
    have hV : trV a0 b0 c0 a1 b1 c1 p0 q0 r0 p1 q1 r1 kf = 0 := if_neg hE
    rw [hL, hV, if_neg hE]
    simp
end Go.Proofs.Ytdfcphfoccgopaa.QT
