/- The codec seat: the reference: the digest. Printed by a program of this seat out of the translation. -/
import Derived.Test.YtcmphojichgfeaaDoorCT
namespace Go.Proofs.YtcmphojichgfeaaDoor.QC
open Go.RowKit Go.Proofs.YtcmphojichgfeaaDoorW.PrintWords Go.Proofs.YtcmphojichgfeaaDoorW.PrintLast Go.Proofs.YtcmphojichgfeaaDoorW.PrintMore
attribute [local go_sem] max2_int min2_int max_two min_two max_three min_three max_four min_four
set_option linter.unusedVariables false
set_option linter.unusedSimpArgs false

/-! ### gangsawref02_Digest: function 27 -/
mutual
def gangsawref02_Digest.l0 : Nat → ByteArray → Int → Int → Option (ByteArray)
  | 0, _, _, _ => none
  | k + 1, x0, x3, x4 => if x4 < (x0.size : Int) then (if 0 ≤ x4 then (gangsawref02_Digest.l0 k x0 (IntKind.u64.wrap ((Go.bits .xor .u64 (Go.bits .or .u64 (IntKind.u64.wrap (x3 * 128)) (x3 / 144115188075855872)) (IntKind.u64.wrap (bt x0 x4))) * 18397679294719823053)) (wrap64 (x4 + 1))) else (none)) else (gangsawref02_Digest.l1 k (Go.bits .xor .u64 x3 (x3 / 4294967296)) (⟨#[]⟩ : ByteArray) 60)
def gangsawref02_Digest.l1 : Nat → Int → ByteArray → Int → Option (ByteArray)
  | 0, _, _, _ => none
  | k + 1, x3, x5, x6 => if x6 ≥ 0 then (if 0 ≤ x6 then (if 0 ≤ (Go.bits .and .u64 (shr .u64 x3 x6) 15) then (if (Go.bits .and .u64 (shr .u64 x3 x6) 15) ≤ (IntKind.u64.wrap ((Go.bits .and .u64 (shr .u64 x3 x6) 15) + 1)) then (if (IntKind.u64.wrap ((Go.bits .and .u64 (shr .u64 x3 x6) 15) + 1)) ≤ 16 then (if x5.size + ((⟨#[48, 49, 50, 51, 52, 53, 54, 55, 56, 57, 97, 98, 99, 100, 101, 102]⟩ : ByteArray).extract ((Go.bits .and .u64 (shr .u64 x3 x6) 15) : Int).toNat ((IntKind.u64.wrap ((Go.bits .and .u64 (shr .u64 x3 x6) 15) + 1)) : Int).toNat).size ≤ 9223372036854775807 then (gangsawref02_Digest.l1 k x3 (x5 ++ ((⟨#[48, 49, 50, 51, 52, 53, 54, 55, 56, 57, 97, 98, 99, 100, 101, 102]⟩ : ByteArray).extract ((Go.bits .and .u64 (shr .u64 x3 x6) 15) : Int).toNat ((IntKind.u64.wrap ((Go.bits .and .u64 (shr .u64 x3 x6) 15) + 1)) : Int).toNat)) (wrap64 (x6 - 4))) else (none)) else (none)) else (none)) else (none)) else (none)) else (some x5)
end
def gangsawref02_Digest.f (k : Nat) (a0 : ByteArray) : Option (ByteArray) := gangsawref02_Digest.l0 k a0 11400714819323198485 0
theorem gangsawref02_Digest.mono_l : ∀ k, (∀ y0 y1 y2, LeO (gangsawref02_Digest.l0 k y0 y1 y2) (gangsawref02_Digest.l0 (k + 1) y0 y1 y2)) ∧ (∀ y0 y1 y2, LeO (gangsawref02_Digest.l1 k y0 y1 y2) (gangsawref02_Digest.l1 (k + 1) y0 y1 y2))
  | 0 => ⟨fun _ _ _ r h => by simp [gangsawref02_Digest.l0] at h, fun _ _ _ r h => by simp [gangsawref02_Digest.l1] at h⟩
  | k + 1 => by
    obtain ⟨ih0, ih1⟩ := gangsawref02_Digest.mono_l k
    refine ⟨?_, ?_⟩
    · intro y0 y1 y2
      unfold gangsawref02_Digest.l0
      repeat' first
      | (with_reducible exact ih0 _ _ _)
      | (with_reducible exact ih1 _ _ _)
      | (with_reducible exact LeO.refl _)
      | (with_reducible exact LeO.none _)
      | (with_reducible refine LeO.ite ?_ ?_)
      | (with_reducible refine LeO.bind ?_ (fun _ => ?_))
      | exact ih0 _ _ _
      | exact ih1 _ _ _
      | exact LeO.none _
      | refine LeO.ite ?_ ?_
      | refine LeO.bind ?_ (fun _ => ?_)
    · intro y0 y1 y2
      unfold gangsawref02_Digest.l1
      repeat' first
      | (with_reducible exact ih0 _ _ _)
      | (with_reducible exact ih1 _ _ _)
      | (with_reducible exact LeO.refl _)
      | (with_reducible exact LeO.none _)
      | (with_reducible refine LeO.ite ?_ ?_)
      | (with_reducible refine LeO.bind ?_ (fun _ => ?_))
      | exact ih0 _ _ _
      | exact ih1 _ _ _
      | exact LeO.none _
      | refine LeO.ite ?_ ?_
      | refine LeO.bind ?_ (fun _ => ?_)
theorem gangsawref02_Digest.mono : ∀ a0 k, LeO (gangsawref02_Digest.f k a0) (gangsawref02_Digest.f (k + 1) a0) := by
  intro a0 k
  obtain ⟨ih0, ih1⟩ := gangsawref02_Digest.mono_l k
  unfold gangsawref02_Digest.f
  repeat' first
      | (with_reducible exact ih0 _ _ _)
      | (with_reducible exact ih1 _ _ _)
      | (with_reducible exact LeO.refl _)
      | (with_reducible exact LeO.none _)
      | (with_reducible refine LeO.ite ?_ ?_)
      | (with_reducible refine LeO.bind ?_ (fun _ => ?_))
      | exact ih0 _ _ _
      | exact ih1 _ _ _
      | exact LeO.none _
      | refine LeO.ite ?_ ?_
      | refine LeO.bind ?_ (fun _ => ?_)
set_option maxHeartbeats 8000000 in
set_option maxRecDepth 100000 in
theorem gangsawref02_Digest.calls (k : Nat) (a0 : ByteArray) (r : ByteArray) (w : World) (h : gangsawref02_Digest.f k a0 = some r) :
    Calls Tryd.prog 27 #[.string a0] w fun e w' => e = .returned (.string r) ∧ Drawn0 w w' := by
  have H : (gangsawref02_Digest.l0 k a0 11400714819323198485 0) = some r := h
  clear h
  have H' := Aside0.mk H
  clear H
  go_enter Tryd.func27, Tryd.ntmps27
  go_wp2
  repeat (go_quiet (fail); try go_wp2)
  go_loopg [3, 4] k (fun kq v3 v4 w' => ∃ (x3_1 : Int) (x4_1 : Int), v3 = .int .u64 x3_1 ∧ v4 = .int .i64 x4_1 ∧ Aside0 (gangsawref02_Digest.l0 kq a0 x3_1 x4_1 = some r) ∧ Aside0 (kq ≤ k) ∧ Drawn0 w w')
  case atStart => exact ⟨(11400714819323198485), (0), (by first | rfl | (simp; done) | (simp [*]; done)), (by first | rfl | (simp; done) | (simp [*]; done)), H', ⟨Nat.le_refl _⟩, by repeat (first | exact Drawn0.refl _ | apply Drawn0.step)⟩
  case round =>
    clear H'
    obtain ⟨x3_1, x4_1, rfl, rfl, HA, HK1, ⟨m1, rfl⟩⟩ := hrel
    cases gk with
    | zero => exact absurd HA.out (by simp [gangsawref02_Digest.l0])
    | succ k1 =>
      have H := HA.out
      clear HA
      simp only [gangsawref02_Digest.l0] at H
      by_cases c2 : x4_1 < (a0.size : Int)
      · rw [if_pos c2] at H
        have c2b0 : decide (x4_1 < (a0.size : Int)) = true := decide_eq_true c2
        clear c2
        by_cases c3 : 0 ≤ x4_1
        · rw [if_pos c3] at H
          have c3b0 : decide (0 ≤ x4_1) = true := decide_eq_true c3
          clear c3
          have H' := Aside0.mk H
          clear H
          have p4 : 0 ≤ (x4_1 : Int) := of_decide_eq_true (by first | (with_reducible assumption) | assumption)
          have q4 : x4_1 < (a0.size : Int) := of_decide_eq_true (by first | (with_reducible assumption) | assumption)
          have hx4 := bt_at a0 x4_1
          replace p4 := eq_true p4
          replace q4 := eq_true q4
          go_wp2
          repeat (go_quiet (fail); try go_wp2)
          go_roundg k1
          case measure => have := HK1.out; omega
          case rel => exact ⟨(IntKind.u64.wrap ((Go.bits .xor .u64 (Go.bits .or .u64 (IntKind.u64.wrap (x3_1 * 128)) (x3_1 / 144115188075855872)) (IntKind.u64.wrap (bt a0 x4_1))) * 18397679294719823053)), (wrap64 (x4_1 + 1)), (by first | rfl | (simp; done) | (simp [*]; done)), (by first | rfl | (simp; done) | (simp [*]; done)), H', ⟨by have := HK1.out; omega⟩, by repeat (first | exact Drawn0.refl _ | apply Drawn0.step)⟩
        · rw [if_neg c3] at H
          exact absurd H (by simp)
      · rw [if_neg c2] at H
        have c2b0 : decide (x4_1 < (a0.size : Int)) = false := decide_eq_false c2
        clear c2
        have H' := Aside0.mk H
        clear H
        go_wp2
        repeat (go_quiet (fail); try go_wp2)
        go_loopg [5, 6] k1 (fun kq v5 v6 w' => ∃ (x5_2 : ByteArray) (x6_2 : Int), v5 = .string x5_2 ∧ v6 = .int .i64 x6_2 ∧ Aside0 (gangsawref02_Digest.l1 kq (Go.bits .xor .u64 x3_1 (x3_1 / 4294967296)) x5_2 x6_2 = some r) ∧ Aside0 (kq ≤ k1) ∧ Drawn0 w w')
        case atStart => exact ⟨((⟨#[]⟩ : ByteArray)), (60), (by first | rfl | (simp; done) | (simp [*]; done)), (by first | rfl | (simp; done) | (simp [*]; done)), H', ⟨Nat.le_refl _⟩, by repeat (first | exact Drawn0.refl _ | apply Drawn0.step)⟩
        case round =>
          clear H'
          try clear c2
          try clear c2b0
          try clear p2
          try clear c3
          try clear c3b0
          try clear p4
          try clear q4
          try clear hx4
          try clear p4
          try clear q4
          obtain ⟨x5_2, x6_2, rfl, rfl, HA, HK2, ⟨m2, rfl⟩⟩ := hrel
          cases gk with
          | zero => exact absurd HA.out (by simp [gangsawref02_Digest.l1])
          | succ k2 =>
            have H := HA.out
            clear HA
            simp only [gangsawref02_Digest.l1] at H
            by_cases c5 : x6_2 ≥ 0
            · rw [if_pos c5] at H
              have c5b0 : decide (0 ≤ x6_2) = true := decide_eq_true c5
              clear c5
              by_cases c6 : 0 ≤ x6_2
              · rw [if_pos c6] at H
                have c6b0 := eq_true c6
                have c6b1 : decide (0 ≤ x6_2) = true := decide_eq_true c6
                clear c6
                obtain ⟨ji7, hji7⟩ : ∃ j_ : Int, (shr .u64 (Go.bits .xor .u64 x3_1 (x3_1 / 4294967296)) x6_2) = j_ := ⟨_, rfl⟩
                replace H : (if 0 ≤ (Go.bits .and .u64 (ji7) 15) then (if (Go.bits .and .u64 (ji7) 15) ≤ (IntKind.u64.wrap ((Go.bits .and .u64 (ji7) 15) + 1)) then (if (IntKind.u64.wrap ((Go.bits .and .u64 (ji7) 15) + 1)) ≤ 16 then (if x5_2.size + ((⟨#[48, 49, 50, 51, 52, 53, 54, 55, 56, 57, 97, 98, 99, 100, 101, 102]⟩ : ByteArray).extract ((Go.bits .and .u64 (ji7) 15) : Int).toNat ((IntKind.u64.wrap ((Go.bits .and .u64 (ji7) 15) + 1)) : Int).toNat).size ≤ 9223372036854775807 then (gangsawref02_Digest.l1 k2 (Go.bits .xor .u64 x3_1 (x3_1 / 4294967296)) (x5_2 ++ ((⟨#[48, 49, 50, 51, 52, 53, 54, 55, 56, 57, 97, 98, 99, 100, 101, 102]⟩ : ByteArray).extract ((Go.bits .and .u64 (ji7) 15) : Int).toNat ((IntKind.u64.wrap ((Go.bits .and .u64 (ji7) 15) + 1)) : Int).toNat)) (wrap64 (x6_2 - 4))) else (none)) else (none)) else (none)) else (none)) = some r := by first | (rw [hji7] at H; exact H) | (simp only [hji7] at H ⊢; exact H)
                have hji7_ : ((Go.bits .xor .u64 x3_1 (x3_1 / 4294967296)) / 2 ^ min x6_2.toNat 64) = ji7 := hji7
                have hji7z : x6_2 ≤ 64 → ((Go.bits .xor .u64 x3_1 (x3_1 / 4294967296)) / 2 ^ x6_2.toNat) = ji7 := shr_small hji7
                have c8b0 := eq_true (of_decide_eq_true (by first | (with_reducible assumption) | assumption) : 0 ≤ x6_2)
                by_cases c10 : 0 ≤ (Go.bits .and .u64 (ji7) 15)
                · rw [if_pos c10] at H
                  have c10b0 := eq_true c10
                  have c10b1 : decide (0 ≤ (Go.bits .and .u64 (ji7) 15)) = true := decide_eq_true c10
                  clear c10
                  by_cases c11 : (Go.bits .and .u64 (ji7) 15) ≤ (IntKind.u64.wrap ((Go.bits .and .u64 (ji7) 15) + 1))
                  · rw [if_pos c11] at H
                    have c11b0 := eq_true c11
                    have c11b1 : decide ((Go.bits .and .u64 (ji7) 15) ≤ (IntKind.u64.wrap ((Go.bits .and .u64 (ji7) 15) + 1))) = true := decide_eq_true c11
                    by_cases c12 : (IntKind.u64.wrap ((Go.bits .and .u64 (ji7) 15) + 1)) ≤ 16
                    · rw [if_pos c12] at H
                      have c12b0 := eq_true c12
                      have c12b1 : decide ((IntKind.u64.wrap ((Go.bits .and .u64 (ji7) 15) + 1)) ≤ 16) = true := decide_eq_true c12
                      by_cases c13 : x5_2.size + ((⟨#[48, 49, 50, 51, 52, 53, 54, 55, 56, 57, 97, 98, 99, 100, 101, 102]⟩ : ByteArray).extract ((Go.bits .and .u64 (ji7) 15) : Int).toNat ((IntKind.u64.wrap ((Go.bits .and .u64 (ji7) 15) + 1)) : Int).toNat).size ≤ 9223372036854775807
                      · rw [if_pos c13] at H
                        have c13b0 := eq_true c13
                        have c13b1 : decide (x5_2.size + ((⟨#[48, 49, 50, 51, 52, 53, 54, 55, 56, 57, 97, 98, 99, 100, 101, 102]⟩ : ByteArray).extract ((Go.bits .and .u64 (ji7) 15) : Int).toNat ((IntKind.u64.wrap ((Go.bits .and .u64 (ji7) 15) + 1)) : Int).toNat).size ≤ 9223372036854775807) = true := decide_eq_true c13
                        try have c13b2 : (9223372036854775807 < x5_2.size + ((⟨#[48, 49, 50, 51, 52, 53, 54, 55, 56, 57, 97, 98, 99, 100, 101, 102]⟩ : ByteArray).extract ((Go.bits .and .u64 (ji7) 15) : Int).toNat ((IntKind.u64.wrap ((Go.bits .and .u64 (ji7) 15) + 1)) : Int).toNat).size) = False := eq_false (Nat.not_lt.2 c13)
                        have H' := Aside0.mk H
                        clear H
                        go_wp2
                        repeat (go_quiet (fail); try go_wp2)
                        go_roundg k2
                        case measure => have := HK1.out; have := HK2.out; omega
                        case rel => exact ⟨(x5_2 ++ ((⟨#[48, 49, 50, 51, 52, 53, 54, 55, 56, 57, 97, 98, 99, 100, 101, 102]⟩ : ByteArray).extract ((Go.bits .and .u64 (ji7) 15) : Int).toNat ((IntKind.u64.wrap ((Go.bits .and .u64 (ji7) 15) + 1)) : Int).toNat)), (wrap64 (x6_2 - 4)), (by first | rfl | (simp; done) | (simp only [← hji7] <;> (first | rfl | simp)) | (simp [*]; done)), (by first | rfl | (simp; done) | (simp [*]; done)), H', ⟨by have := HK1.out; have := HK2.out; omega⟩, by repeat (first | exact Drawn0.refl _ | apply Drawn0.step)⟩
                      · rw [if_neg c13] at H
                        exact absurd H (by simp)
                    · rw [if_neg c12] at H
                      exact absurd H (by simp)
                  · rw [if_neg c11] at H
                    exact absurd H (by simp)
                · rw [if_neg c10] at H
                  exact absurd H (by simp)
              · rw [if_neg c6] at H
                exact absurd H (by simp)
            · rw [if_neg c5] at H
              have c5b0 : decide (0 ≤ x6_2) = false := decide_eq_false c5
              clear c5
              obtain rfl := Option.some.inj H
              go_wp2
              repeat (go_quiet (fail); try go_wp2)
              go_ret
              exact ⟨by first | rfl | (simp; done) | (simp [*]; done), by repeat (first | exact Drawn0.refl _ | apply Drawn0.step)⟩
end Go.Proofs.YtcmphojichgfeaaDoor.QC
