/- The codec seat: the reference's digest, in plain Lean. -/
import Derived.Test.YtcmphojichgfeaaDoorCR6
import Derived.Test.YtcmphojichgfeaaDoorCH5
namespace Go.Proofs.YtcmphojichgfeaaDoor.QC
open Go.RowKit Go.Proofs.YtcmphojichgfeaaDoorW.PrintWords Go.Proofs.YtcmphojichgfeaaDoorW.PrintLast Go.Proofs.YtcmphojichgfeaaDoorW.PrintMore
set_option linter.unusedVariables false
set_option linter.unusedSimpArgs false
abbrev hexT : ByteArray := ⟨#[48, 49, 50, 51, 52, 53, 54, 55, 56, 57, 97, 98, 99, 100, 101, 102]⟩
theorem hexT_at : ∀ d : Fin 16, hexT.extract d.val (d.val + 1) = ⟨#[hexD d.val]⟩ := by decide
theorem hex_cons : ∀ (j h : Nat), hex (j + 1) h = hexD (h / 16 ^ j % 16) :: hex j h
  | 0, h => by simp [hex]
  | j + 1, h => by
    rw [hex, hex_cons j (h / 16)]
    show hexD _ :: (hex j (h / 16) ++ [hexD (h % 16)]) = _
    rw [Nat.div_div_eq_div_mul, show 16 * 16 ^ j = 16 ^ (j + 1) by rw [Nat.pow_succ, Nat.mul_comm]]
    rfl
theorem ba_cons (out : ByteArray) (d : UInt8) (l : List UInt8) : (out ++ ⟨#[d]⟩) ++ ⟨l.toArray⟩ = out ++ ⟨(d :: l).toArray⟩ := by
  apply ByteArray.ext
  simp [ByteArray.data_append]
theorem refL1 (h : Nat) (hh : h ≤ 18446744073709551615) : ∀ (j : Nat) (out : ByteArray) (k : Nat), j ≤ 15 → out.size + j ≤ 100 → gangsawref02_Digest.l1 (k + j + 2) (h : Int) out ((4 * j : Nat) : Int) = some (out ++ ⟨(hex (j + 1) h).toArray⟩) := by
  intro j
  induction j with
  | zero =>
    intro out k hj ho
    have e1 : Go.bits .and .u64 (shr .u64 (h : Int) ((4 * 0 : Nat) : Int)) 15 = ((h % 16 : Nat) : Int) := by
      have : shr .u64 (h : Int) ((4 * 0 : Nat) : Int) = ((h : Nat) : Int) := by unfold shr; simp
      rw [this, and15 h hh]
    have hd : h % 16 < 16 := Nat.mod_lt _ (by omega)
    have w1 : IntKind.u64.wrap (((h % 16 : Nat) : Int) + 1) = ((h % 16 + 1 : Nat) : Int) := by rw [wrap_u64 (by omega) (by omega)]; omega
    have t1 := hexT_at ⟨h % 16, hd⟩
    simp only at t1
    rw [show k + 0 + 2 = (k + 1) + 1 by omega, gangsawref02_Digest.l1, e1, w1]
    simp only [Int.toNat_natCast]
    rw [t1]
    have s1 : (⟨#[hexD (h % 16)]⟩ : ByteArray).size = 1 := rfl
    rw [s1, if_pos (by omega), if_pos (by omega), if_pos (by omega), if_pos (by omega), if_pos (by omega), if_pos (by omega)]
    rw [gangsawref02_Digest.l1, if_neg (by unfold wrap64; omega)]
    rfl
  | succ j ih =>
    intro out k hj ho
    have e1 : Go.bits .and .u64 (shr .u64 (h : Int) ((4 * (j + 1) : Nat) : Int)) 15 = ((h / 16 ^ (j + 1) % 16 : Nat) : Int) := by
      have : shr .u64 (h : Int) ((4 * (j + 1) : Nat) : Int) = ((h / 16 ^ (j + 1) : Nat) : Int) := by
        unfold shr
        rw [Int.toNat_natCast, Nat.min_eq_left (by simp only [IntKind.bits]; omega)]
        rw [show (2 : Int) ^ (4 * (j + 1)) = ((16 ^ (j + 1) : Nat) : Int) by rw [show (16 : Nat) ^ (j + 1) = 2 ^ (4 * (j + 1)) by rw [Nat.pow_mul], Int.natCast_pow]; rfl]
        exact (Int.natCast_ediv _ _).symm
      rw [this, and15 _ (Nat.le_trans (Nat.div_le_self _ _) hh)]
    have hd : h / 16 ^ (j + 1) % 16 < 16 := Nat.mod_lt _ (by omega)
    have w1 : IntKind.u64.wrap (((h / 16 ^ (j + 1) % 16 : Nat) : Int) + 1) = ((h / 16 ^ (j + 1) % 16 + 1 : Nat) : Int) := by rw [wrap_u64 (by omega) (by omega)]; omega
    have t1 := hexT_at ⟨h / 16 ^ (j + 1) % 16, hd⟩
    simp only at t1
    rw [show k + (j + 1) + 2 = (k + j + 2) + 1 by omega, gangsawref02_Digest.l1, e1, w1]
    simp only [Int.toNat_natCast]
    rw [t1]
    have s1 : (⟨#[hexD (h / 16 ^ (j + 1) % 16)]⟩ : ByteArray).size = 1 := rfl
    rw [s1, if_pos (by omega), if_pos (by omega), if_pos (by omega), if_pos (by omega), if_pos (by omega), if_pos (by omega)]
    rw [show wrap64 (((4 * (j + 1) : Nat) : Int) - 4) = ((4 * j : Nat) : Int) by unfold wrap64; omega]
    rw [ih (out ++ ⟨#[hexD (h / 16 ^ (j + 1) % 16)]⟩) k (by omega) (by rw [ByteArray.size_append, s1]; omega), ba_cons, ← hex_cons]
theorem bt_drop (s : ByteArray) (i : Nat) (h : i < s.size) : s.data.toList.drop i = s[i] :: s.data.toList.drop (i + 1) := by
  rw [List.drop_eq_getElem_cons (by simpa using h)]
  rfl
theorem refL0 (s : ByteArray) (hs : s.size ≤ 9223372036854775806) : ∀ (n i h k : Nat), i + n = s.size → h ≤ 18446744073709551615 →
    gangsawref02_Digest.l0 (k + n + 18) s (h : Int) (i : Int) = some ⟨(hex 16 (dfin ((s.data.toList.drop i).foldl dstep h))).toArray⟩ := by
  intro n
  induction n with
  | zero =>
    intro i h k hi hh
    have hd : s.data.toList.drop i = [] := List.drop_eq_nil_of_le (by simp; exact Nat.le_of_eq (by simpa using hi.symm))
    rw [hd, show k + 0 + 18 = (k + 15 + 2) + 1 by omega, gangsawref02_Digest.l0, if_neg (by omega)]
    have e1 : Go.bits .xor .u64 (h : Int) ((h : Int) / 4294967296) = ((dfin h : Nat) : Int) := by
      rw [show (h : Int) / 4294967296 = ((h / 4294967296 : Nat) : Int) by omega]
      exact xorN h _ hh (by omega)
    rw [e1, show (60 : Int) = ((4 * 15 : Nat) : Int) by omega, refL1 (dfin h) (dfin_le h hh) 15 _ k (by omega) (by decide)]
    congr 1
  | succ n ih =>
    intro i h k hi hh
    have hlt : i < s.size := by omega
    rw [show k + (n + 1) + 18 = (k + n + 18) + 1 by omega, gangsawref02_Digest.l0, if_pos (by omega), if_pos (by omega)]
    have e0 : bt s (i : Int) = ((s[i].toNat : Nat) : Int) := (bt_at s (i : Int) (by simpa using hlt)).symm
    have e1 : Go.bits .or .u64 (IntKind.u64.wrap ((h : Int) * 128)) ((h : Int) / 144115188075855872) = ((rot7 h : Nat) : Int) := by
      rw [show (h : Int) * 128 = ((h * 128 : Nat) : Int) by omega, wrapN, show (h : Int) / 144115188075855872 = ((h / 144115188075855872 : Nat) : Int) by omega, orN _ _ (by omega) (by omega), rot7_or h hh]
    rw [e0, e1, dvalI, show wrap64 ((i : Int) + 1) = ((i + 1 : Nat) : Int) by unfold wrap64; omega, ih (i + 1) _ k (by omega) (dstep_le h _), bt_drop s i hlt]
    rfl
theorem refDigest (s : ByteArray) (hs : s.size ≤ 9223372036854775806) (k : Nat) : gangsawref02_Digest.f (k + s.size + 18) s = some (digB s) :=
  refL0 s hs s.size 0 11400714819323198485 k (by omega) (by omega)
end Go.Proofs.YtcmphojichgfeaaDoor.QC
