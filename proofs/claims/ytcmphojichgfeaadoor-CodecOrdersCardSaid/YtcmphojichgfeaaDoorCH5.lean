/- The codec seat: Digest, walked by hand. -/
import Derived.Test.YtcmphojichgfeaaDoorCH5a
namespace Go.Proofs.YtcmphojichgfeaaDoor.QC
open Go.RowKit Go.Proofs.YtcmphojichgfeaaDoorW.PrintWords Go.Proofs.YtcmphojichgfeaaDoorW.PrintLast Go.Proofs.YtcmphojichgfeaaDoorW.PrintMore
set_option linter.unusedVariables false
set_option linter.unusedSimpArgs false
attribute [local go_sem] max2_int min2_int max_two min_two
theorem bv64 (x : Nat) (h : x ≤ 18446744073709551615) : (BitVec.ofInt IntKind.u64.bits (x : Int)).toNat = x := by
  rw [BitVec.toNat_ofInt]
  simp only [IntKind.bits]
  omega
theorem xorN (x y : Nat) (hx : x ≤ 18446744073709551615) (hy : y ≤ 18446744073709551615) : Go.bits .xor .u64 (x : Int) (y : Int) = ((x ^^^ y : Nat) : Int) := by
  unfold Go.bits
  simp only []
  rw [BitVec.toNat_xor, bv64 x hx, bv64 y hy]
  have h : x ^^^ y < 2 ^ 64 := Nat.xor_lt_two_pow (by omega) (by omega)
  exact wrap_u64 (by omega) (by omega)
theorem orN (x y : Nat) (hx : x ≤ 18446744073709551615) (hy : y ≤ 18446744073709551615) : Go.bits .or .u64 (x : Int) (y : Int) = ((x ||| y : Nat) : Int) := by
  unfold Go.bits
  simp only []
  rw [BitVec.toNat_or, bv64 x hx, bv64 y hy]
  have h : x ||| y < 2 ^ 64 := Nat.or_lt_two_pow (by omega) (by omega)
  exact wrap_u64 (by omega) (by omega)
theorem wrapN (x : Nat) : IntKind.u64.wrap (x : Int) = ((x % 18446744073709551616 : Nat) : Int) := by
  simp only [IntKind.wrap, IntKind.signed, IntKind.bits, Bool.false_and, Bool.false_eq_true, if_false]
  omega
def rot7 (h : Nat) : Nat := (h * 128 + h / 144115188075855872) % 18446744073709551616
theorem rot7_or (h : Nat) (hh : h ≤ 18446744073709551615) : (h * 128 % 18446744073709551616) ||| (h / 144115188075855872) = rot7 h := by
  have e1 : h * 128 % 18446744073709551616 = (h % 144115188075855872) <<< 7 := by
    rw [Nat.shiftLeft_eq]
    omega
  rw [e1, ← Nat.shiftLeft_add_eq_or_of_lt (show h / 144115188075855872 < 2 ^ 7 by omega), Nat.shiftLeft_eq]
  unfold rot7
  omega
theorem rotF (h : Nat) (hh : h ≤ 18446744073709551615) : bits_RotateLeft64.f (h : Int) 7 = some ((rot7 h : Nat) : Int) := by
  unfold bits_RotateLeft64.f
  have a1 : IntKind.u64.wrap 7 = 7 := by decide
  have a2 : Go.bits .and .u64 7 63 = 7 := by decide
  have a3 : IntKind.u64.wrap (64 - 7) = 57 := by decide
  have a4 : shl .u64 (h : Int) 7 = ((h * 128 % 18446744073709551616 : Nat) : Int) := by
    unfold shl
    rw [show ((h : Int) * 2 ^ min (7 : Int).toNat IntKind.u64.bits) = ((h * 128 : Nat) : Int) by rw [show min (7 : Int).toNat IntKind.u64.bits = 7 from rfl]; push_cast; rfl]
    exact wrapN _
  have a5 : shr .u64 (h : Int) 57 = ((h / 144115188075855872 : Nat) : Int) := by
    unfold shr
    rw [show min (57 : Int).toNat IntKind.u64.bits = 57 from rfl]
    rfl
  rw [a1, a2, if_pos (by omega), a3, if_pos (by omega), a4, a5, orN _ _ (by omega) (by omega), rot7_or h hh]
theorem rotC (h : Nat) (hh : h ≤ 18446744073709551615) (w : World) : Calls Tryd.prog 46 #[.int .u64 h, .int .i64 7] w fun e w' => e = .returned (.int .u64 (rot7 h : Nat)) ∧ ∃ m, w' = w.drewN m := by
  refine (bits_RotateLeft64.calls (h : Int) 7 _ w (rotF h hh)).mono ?_
  rintro e w' ⟨rfl, ⟨hd⟩⟩
  exact ⟨rfl, hd⟩
theorem dstep_eq (h : Nat) (b : UInt8) : dstep h b = ((rot7 h ^^^ b.toNat) * 18397679294719823053) % 18446744073709551616 := by rw [dstep, rot7]
theorem dstep_le (h : Nat) (b : UInt8) : dstep h b ≤ 18446744073709551615 := by rw [dstep_eq]; omega
theorem hmC (x : Nat) : ((x : Int) * 18397679294719823053) = ((x * 18397679294719823053 : Nat) : Int) := by omega
theorem dvalI (h : Nat) (b : UInt8) : IntKind.u64.wrap (Go.bits .xor .u64 ((rot7 h : Nat) : Int) (IntKind.u64.wrap ((b.toNat : Nat) : Int)) * 18397679294719823053) = ((dstep h b : Nat) : Int) := by
  have hb8 : b.toNat < 256 := b.toNat_lt
  rw [wrap_u64 (n := ((b.toNat : Nat) : Int)) (by omega) (by omega), xorN (rot7 h) b.toNat (by unfold rot7; omega) (by omega), hmC, wrapN, dstep_eq]
theorem dval (h : Nat) (b : UInt8) : Value.int .u64 (IntKind.u64.wrap (Go.bits .xor .u64 ((rot7 h : Nat) : Int) (IntKind.u64.wrap ((b.toNat : Nat) : Int)) * 18397679294719823053)) = Value.int .u64 ((List.foldl dstep h [b] : Nat) : Int) := by
  rw [dvalI, List.foldl_cons, List.foldl_nil]
theorem dtake (l : List UInt8) (i : Nat) (h : i < l.length) : l.take (i + 1) = l.take i ++ [l[i]] := by
  rw [List.take_add_one, List.getElem?_eq_getElem h]
  rfl
theorem dfold_le' : ∀ (l : List UInt8) (h : Nat), h ≤ 18446744073709551615 → l.foldl dstep h ≤ 18446744073709551615
  | [], h, hh => hh
  | b :: l, h, _ => by
    rw [List.foldl_cons]
    exact dfold_le' l _ (dstep_le h b)
theorem dfold_le (l : List UInt8) : l.foldl dstep 11400714819323198485 ≤ 18446744073709551615 := dfold_le' l _ (by omega)
theorem dfin_le (h : Nat) (hh : h ≤ 18446744073709551615) : dfin h ≤ 18446744073709551615 := by
  have : dfin h < 2 ^ 64 := Nat.xor_lt_two_pow (by omega) (by omega)
  omega
theorem hex_zero : ∀ k, hex k 0 = List.replicate k 48
  | 0 => rfl
  | k + 1 => by
    rw [hex, hex_zero k, List.replicate_succ']
    rfl
theorem hex_hx : ∀ (k n : Nat), n < 16 ^ k → 0 < k → hex k n = List.replicate (k - (hx n).length) 48 ++ hx n
  | 0, _, _, h => absurd h (by omega)
  | k + 1, n, hn, _ => by
    rw [hex]
    by_cases h : n < 16
    · rw [hx_small n h, show n / 16 = 0 by omega, hex_zero, show n % 16 = n by omega]
      simp
    · have hk : 0 < k := by
        apply Nat.pos_of_ne_zero
        rintro rfl
        simp at hn
        omega
      have hn2 : n / 16 < 16 ^ k := by rw [Nat.pow_succ] at hn; exact Nat.div_lt_of_lt_mul (by rw [Nat.mul_comm]; exact hn)
      rw [hex_hx k (n / 16) hn2 hk, hx_big n h, List.append_assoc]
      simp
theorem rep48 : ∀ c, Lib.repeatL [48] c = List.replicate c (48 : UInt8) := by
  intro c
  induction c with
  | zero => rfl
  | succ c ih => first | (rw [Lib.repeatL, ih, List.replicate_succ]; rfl) | (simp [Lib.repeatL, List.replicate_succ])
set_option maxRecDepth 100000 in
set_option maxHeartbeats 4000000 in
theorem digC (s : ByteArray) (hs : s.size ≤ 9223372036854775807) (w : World) (hG : GG w) : Calls Tryd.prog 26 #[.string s] w fun e w' => e = .returned (.string (digB s)) ∧ Below w.heap.size w w' := by
  have HB := Aside0.mk (Below.refl w.heap.size w)
  have HG := Aside0.mk hG
  clear hG
  go_enter Tryd.func26, Tryd.ntmps26
  go_wp2
  go_loopg [3, 4, 8] s.size (fun kq v3 v4 v8 w' => ∃ i : Nat, v8 = .int .i64 i ∧ v3 = .int .u64 (((s.data.toList.take i).foldl dstep 11400714819323198485 : Nat) : Int) ∧ Hid (i + kq = s.size) ∧ Aside0 (Below w.heap.size w w'))
  case atStart => exact ⟨0, rfl, rfl, by simp [Hid], HB⟩
  case round =>
    clear HB
    obtain ⟨i, rfl, rfl, HI, HB⟩ := hrel
    cases gk with
    | zero =>
      have hi := HI.out
      have hlss : decide ((i : Int) < (s.size : Int)) = false := decide_eq_false (by omega)
      obtain ⟨H, hH⟩ : ∃ H, H = (s.data.toList.take i).foldl dstep 11400714819323198485 := ⟨_, rfl⟩
      rw [← hH]
      have hH2 : H = dhash s := by
        rw [hH, List.take_of_length_le (by rw [data_length]; omega)]
        rfl
      have hle : H ≤ 18446744073709551615 := by rw [hH]; exact dfold_le _
      have HH2 := Aside0.mk hH2
      have HD := Aside0.mk (dfin_le H hle)
      have hx1 : Go.bits .xor .u64 (H : Int) ((H : Int) / 4294967296) = ((dfin H : Nat) : Int) := by
        rw [show (H : Int) / 4294967296 = ((H / 4294967296 : Nat) : Int) by omega, xorN _ _ hle (by omega)]
        rfl
      have hlen := hx_len 16 (dfin H) (Nat.lt_of_le_of_lt HD.out (by decide)) (by omega)
      have hsub : IntKind.i64.wrap (16 - (((hx (dfin H)).length : Nat) : Int)) = ((16 - (hx (dfin H)).length : Nat) : Int) := (wrap_i64 (by omega) (by omega)).trans (by omega)
      have hcat : (9223372036854775807 < (Lib.repeatL [48] (16 - (hx (dfin H)).length)).length + (hx (dfin H)).length) = False := eq_false (by rw [rep48, List.length_replicate]; omega)
      have hc9 : 16 - (hx (dfin H)).length ≤ 9223372036854775807 := by omega
      have hrep : (⟨#[48]⟩ : ByteArray).size * (16 - (hx (dfin H)).length) ≤ 140737488355328 := by
        rw [show (⟨#[48]⟩ : ByteArray).size = 1 from rfl]
        omega
      clear hH hH2
      go_wp2_with (first | ((with_reducible refine gate_callee (f := 47) rfl ?_); refine goesL_ (some 25) rfl rfl Tryd.func47 (by kernel_rfl) rfl #[.int .u64 (dfin H : Nat), .int .i64 16] rfl (by (try simp only [List.map_toArray, List.map_cons, List.map_nil]); first | done | rfl) ?_; (with_reducible refine (fmtC (dfin H) HD.out _ (GG.mono HG.out HB.out)).mono ?_); rintro e wA ⟨rfl, hb⟩; refine ⟨_, rfl, ?_⟩; have nB_ := Aside0.mk (bbL HB.out hb); clear HB; have HB := nB_; clear hb nB_) | ((with_reducible refine gate_callee (f := 48) rfl ?_); refine goesL_ (some 29) rfl rfl Tryd.func48 (by kernel_rfl) rfl #[.string ⟨#[48]⟩, .int .i64 ((16 - (hx (dfin H)).length : Nat) : Int)] rfl (by (try simp only [List.map_toArray, List.map_cons, List.map_nil]); first | done | rfl) ?_; (with_reducible refine (Tryd.strings_Repeat ⟨#[48]⟩ (16 - (hx (dfin H)).length) _ hc9 hrep).mono ?_); rintro e wB ⟨rfl, hb⟩; refine ⟨_, rfl, ?_⟩; have nB_ := Aside0.mk (bbL HB.out hb); clear HB; have HB := nB_; clear hb nB_))
      go_ret
      refine ⟨?_, HB.out⟩
      have e : digB s = ⟨(Lib.repeatL [48] (16 - (hx (dfin H)).length)).toArray⟩ ++ ⟨(hx (dfin H)).toArray⟩ := by
        rw [digB, ← HH2.out, hex_hx 16 (dfin H) (Nat.lt_of_le_of_lt HD.out (by decide)) (by omega), rep48]
        apply ByteArray.ext
        simp
      rw [e]
      rfl
    | succ gn =>
      have hi := HI.out
      have hlt : i < s.size := by omega
      have hlss : decide ((i : Int) < (s.size : Int)) = true := decide_eq_true (by omega)
      have h0 : (0 : Int) ≤ (i : Int) := by omega
      have h1 : (i : Int) < (s.size : Int) := by omega
      have hw1 : IntKind.i64.wrap ((i : Int) + 1) = (i : Int) + 1 := wrap_i64 (by omega) (by omega)
      obtain ⟨H, hH⟩ : ∃ H, H = (s.data.toList.take i).foldl dstep 11400714819323198485 := ⟨_, rfl⟩
      rw [← hH]
      have hle : H ≤ 18446744073709551615 := by rw [hH]; exact dfold_le _
      have HH2 := Aside0.mk hH
      have HL := Aside0.mk hle
      clear hH hle
      go_wp2
      go_quiet (refine Calls.quiet_of (rotC H HL.out _))
      go_wp2
      go_roundg gn
      case measure => omega
      case rel =>
        refine ⟨i + 1, (by first | rfl | (simp; done) | (simp [*]; done)), ?_, (by simp only [Hid]; omega), ⟨blL HB.out⟩⟩
        have hlt2 : i < s.data.toList.length := by rw [data_length]; exact hlt
        rw [dtake s.data.toList i hlt2, List.foldl_append, ← HH2.out]
        exact dval H s[i]
/-! ### codec_Digest: function 26, given by this seat -/
def codec_Digest.f (a0 : ByteArray) : Option ByteArray := if a0.size ≤ 9223372036854775807 then some (digB a0) else none
theorem codec_Digest.calls (a0 : ByteArray) (r : ByteArray) (w : World) (hG : GG w) (h : codec_Digest.f a0 = some r) :
    Calls Tryd.prog 26 #[.string a0] w fun e w' => e = .returned (.string r) ∧ Below w.heap.size w w' := by
  have hs : a0.size ≤ 9223372036854775807 := by
    apply Decidable.by_contra
    intro hn
    unfold codec_Digest.f at h
    rw [if_neg hn] at h
    cases h
  unfold codec_Digest.f at h
  rw [if_pos hs] at h
  cases h
  exact digC a0 hs w hG
end Go.Proofs.YtcmphojichgfeaaDoor.QC
