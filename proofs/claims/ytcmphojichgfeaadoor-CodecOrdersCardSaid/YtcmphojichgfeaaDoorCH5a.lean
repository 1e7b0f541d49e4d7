/- The codec seat: the library's TrailingZeros and FormatUint in base 16, walked by hand. -/
import Derived.Test.YtcmphojichgfeaaDoorCL0
import Derived.Test.YtcmphojichgfeaaDoorCB2
namespace Go.Proofs.YtcmphojichgfeaaDoor.QC
open Go.RowKit Go.Proofs.YtcmphojichgfeaaDoorW.PrintWords Go.Proofs.YtcmphojichgfeaaDoorW.PrintLast Go.Proofs.YtcmphojichgfeaaDoorW.PrintMore
set_option linter.unusedVariables false
set_option linter.unusedSimpArgs false
attribute [local go_sem] max2_int min2_int max_two min_two
theorem tz64 (w : World) (hG : GG w) : Calls Tryd.prog 89 #[.int .u64 16] w fun e w' => e = .returned (.int .i64 4) ∧ w' = w := by
  have hc : w.cell? ⟨3, 15, none⟩ = some (.int .u8 4) := hG
  have e0 : IntKind.u64.wrap (-16) = 18446744073709551600 := by decide
  have e1 : Go.bits .and .u64 16 18446744073709551600 = 16 := by decide
  have e2 : IntKind.u64.wrap 4573923408821661840 = 4573923408821661840 := by decide
  go_enter Tryd.func89, Tryd.ntmps89
  go_wp2
  go_ret
  exact ⟨rfl, rfl⟩
theorem tz (w : World) (hG : GG w) : Calls Tryd.prog 85 #[.int .u64 16] w fun e w' => e = .returned (.int .i64 4) ∧ w' = w := by
  go_enter Tryd.func85, Tryd.ntmps85
  go_wp2_with (first | (go_at_call 89; refine (tz64 _ hG).mono ?_; rintro e wA ⟨rfl, rfl⟩))
  go_ret
  exact ⟨rfl, rfl⟩
/-- The array of the digits: what is written stands at its end. -/
def arr (d : List UInt8) : Array Value := (List.replicate (65 - d.length) (Value.int .u8 0) ++ d.map fun b => Value.int .u8 b.toNat).toArray
theorem arr_zero : Tryd.zeroCells124 = arr [] := by kernel_rfl
theorem arr_size {d : List UInt8} (h : d.length ≤ 65) : (arr d).size = 65 := by simp [arr]; omega
theorem arr_put {d : List UInt8} (c : UInt8) (h : d.length < 65) : (arr d).setIfInBounds (64 - d.length) (.int .u8 c.toNat) = arr (c :: d) := by
  apply Array.toList_inj.1
  simp only [arr, Array.toList_setIfInBounds, List.map_cons, List.length_cons]
  rw [show 65 - d.length = (64 - d.length) + 1 by omega, show 65 - (d.length + 1) = 64 - d.length by omega, List.replicate_succ', List.append_assoc]
  rw [List.set_append_right _ _ (by simp)]
  simp
theorem arr_at {d : List UInt8} {j : Nat} (h : d.length ≤ 65) (hj : j < d.length) : (arr d)[65 - d.length + j]? = some (.int .u8 (d[j].toNat : Int)) := by
  simp [arr, List.getElem?_append_right, hj]
/-- The digits of a number in base 16. -/
def hx (n : Nat) : List UInt8 := if h : n < 16 then [hexD n] else hx (n / 16) ++ [hexD (n % 16)]
termination_by n
decreasing_by omega
theorem hx_big (n : Nat) (h : ¬ n < 16) : hx n = hx (n / 16) ++ [hexD (n % 16)] := by rw [hx, dif_neg h]
theorem hx_small (n : Nat) (h : n < 16) : hx n = [hexD n] := by rw [hx, dif_pos h]
theorem hx_len : ∀ (k n : Nat), n < 16 ^ k → 0 < k → (hx n).length ≤ k
  | 0, _, _, h => absurd h (by omega)
  | k + 1, n, hn, _ => by
    rw [hx]
    split
    · simp
    · rename_i h
      have hk : 0 < k := by
        apply Nat.pos_of_ne_zero
        rintro rfl
        simp at hn
        omega
      have := hx_len k (n / 16) (by rw [Nat.pow_succ] at hn; exact Nat.div_lt_of_lt_mul (by rw [Nat.mul_comm]; exact hn)) hk
      simp only [List.length_append, List.length_singleton]
      omega
theorem and15 (u : Nat) (h : u ≤ 18446744073709551615) : Go.bits .and .u64 (u : Int) 15 = ((u % 16 : Nat) : Int) := by
  unfold Go.bits
  simp only []
  have e : (BitVec.ofInt IntKind.u64.bits (u : Int) &&& BitVec.ofInt IntKind.u64.bits 15).toNat = u % 16 := by
    rw [BitVec.toNat_and]
    have h1 : (BitVec.ofInt IntKind.u64.bits (u : Int)).toNat = u := by
      rw [BitVec.toNat_ofInt]
      simp only [IntKind.bits]
      omega
    have h2 : (BitVec.ofInt IntKind.u64.bits 15).toNat = 15 := by decide
    rw [h1, h2]
    exact Nat.and_two_pow_sub_one_eq_mod u 4
  rw [e]
  exact wrap_u64 (by omega) (by omega)
def digs : ByteArray := ⟨#[48, 49, 50, 51, 52, 53, 54, 55, 56, 57, 97, 98, 99, 100, 101, 102, 103, 104, 105, 106, 107, 108, 109, 110, 111, 112, 113, 114, 115, 116, 117, 118, 119, 120, 121, 122]⟩
theorem dig_get (n : Nat) (h : n < 16) : digs[n]'(by simp [digs, ByteArray.size]; omega) = hexD n := by
  have h' : ∀ m : Fin 16, digs.data.toList.getD m.val 0 = hexD m.val := by decide
  have h2 := h' ⟨n, h⟩
  have hs : n < digs.data.toList.length := by simp [digs]; omega
  rw [List.getD_eq_getElem?_getD, List.getElem?_eq_getElem hs, Option.getD_some] at h2
  rw [← h2]
  rfl
theorem dig_at (n : Nat) (h : n < 16) : bt digs (n : Int) = ((hexD n).toNat : Int) := by
  have h' : ∀ m : Fin 16, bt digs ((m.val : Nat) : Int) = ((hexD m.val).toNat : Int) := by decide
  exact h' ⟨n, h⟩
theorem sl124 (ev : Operand → Value) (o : Oper) (g i : Nat) (w : World) (hi : i < 65) (ho : o.op = .slice 124 (.tmp 12) (some (.tmp 99)) none none) (h12 : ev (.tmp 12) = .pointer (some ⟨g, 0, none⟩)) (h99 : ev (.tmp 99) = .int .i64 (i : Int)) :
    (execOp ev o).run Tryd.prog w = .ok (.value (.slice (some ⟨g, i, none⟩) (65 - i) (65 - i))) w := by
  have harr : Tryd.prog.arrayLen 124 = 65 := by kernel_rfl
  have hel : Tryd.prog.elem 124 = 5 := by kernel_rfl
  have hu : Tryd.prog.underlying 124 = some (.array (Tryd.prog.arrayLen 124) (Tryd.prog.elem 124)) := by kernel_rfl
  have hr := run_sliceAt_array_l (P := Tryd.prog) w 124 ⟨g, 0, none⟩ hu .i64 (i : Int) (by omega) (by rw [harr]; omega)
  rw [hel, harr] at hr
  have hs : (sizeOf 5).run Tryd.prog w = .ok 1 w := by first | exact Tryd.sizeOf5 w | (simp [Tryd.sizeOf5]; done) | (go_simp; done) | (go_simp; rfl)
  rw [hs] at hr
  simp only [Result.andThen_ok, slicedAt, Int.toNat_natCast] at hr
  rw [if_neg (by omega), show (⟨g, 0, none⟩ : Addr).add (i * 1) = ⟨g, i, none⟩ by rw [add_plain]; simp] at hr
  unfold execOp
  simp [ho, h12, h99, hr]
theorem cv56 (ev : Operand → Value) (o : Oper) (g : Nat) (d : List UInt8) (w : World) (hd : d.length < 65) (hd0 : 0 < d.length) (ho : o.op = .convert 56 9 (.tmp 100)) (h100 : ev (.tmp 100) = .slice (some ⟨g, 65 - d.length, none⟩) d.length d.length) (hb : w.heap[g]? = some (.cells (arr d) 124 (0, 0))) :
    (execOp ev o).run Tryd.prog w = .ok (.value (.string ⟨d.toArray⟩)) w := by
  have hr := run_convert_bytes_arg (P := Tryd.prog) w 56 5 Tryd.underlying56 Tryd.underlying5 g (65 - d.length) d.length d.length (d.map fun b => (b.toNat : Int)) (by simp) (fun i hi => by
    refine (blk_cell hb _).trans ((arr_at (by omega) hi).trans ?_)
    simp [List.getD_eq_getElem?_getD, hi]) 9 Tryd.underlying9
  have e : strOfNums (d.map fun b => (b.toNat : Int)) = ⟨d.toArray⟩ := by
    unfold strOfNums
    simp [Function.comp_def]
  rw [e] at hr
  unfold execOp
  simp [ho, h100, hr]
theorem lift2 {W W' W2 : World} [i : Lift W W'] (hb : Below W'.heap.size W' W2) : Below W.heap.size W W2 := below_step i.h hb
theorem pow2F : strconv_isPowerOfTwo.f 16 = some true := by
  unfold strconv_isPowerOfTwo.f
  rw [show wrap64 (16 - 1) = 15 by unfold wrap64; omega, show Go.bits .and .i64 16 15 = 0 by decide]
  rfl
theorem pow2C (w : World) : Calls Tryd.prog 84 #[.int .i64 16] w fun e w' => e = .returned (.bool true) ∧ Below w.heap.size w w' := by
  refine (strconv_isPowerOfTwo.calls 16 true w pow2F).mono ?_
  rintro e w' ⟨rfl, ⟨nd, rfl⟩⟩
  exact ⟨rfl, pw_below_drewN (Below.refl _ _) nd⟩
set_option maxRecDepth 100000 in
set_option maxHeartbeats 8000000 in
theorem fbC (h : Nat) (hh : h ≤ 18446744073709551615) (w : World) (hG : GG w) : Calls Tryd.prog 76 #[.slice none 0 0, .int .u64 h, .int .i64 16, .bool false, .bool false] w fun e w' => e = .returned (.tuple #[.slice none 0 0, .string ⟨(hx h).toArray⟩]) ∧ Below w.heap.size w w' := by
  have HB := Aside0.mk (Below.refl w.heap.size w)
  have HG := Aside0.mk hG
  clear hG
  go_enter Tryd.func76, Tryd.ntmps76
  go_wp2_with (first | ((with_reducible refine gate_dst (N := 12) rfl ?_); refine box_event ?hg (N := 12) ?hd (cs := Tryd.zeroCells124) (t := 124) ?hr ?_; (case hd => rfl); (case hg => rfl); (case hr => first | (go_simp; done) | (go_simp; rfl)); intro g12 hg w12 hbox hb; have GE_g12 : w.heap.size ≤ g12 := (by rw [hg]; exact (below_size (blL HB.out))); have nG_ := Aside0.mk (GG.mono HG.out (lift2 hb)); clear HG; have HG := nG_; clear nG_; have nB_ := Aside0.mk (bbL HB.out hb); clear HB; have HB := nB_; clear  nB_ ; have B_g12 := Aside0.mk (show w12.heap[g12]? = some (.cells (arr []) 124 (0, 0)) by rw [← arr_zero]; exact hbox); clear hb hbox hg) | ((with_reducible refine gate_callee (f := 84) rfl ?_); refine goesL_ (some 34) rfl rfl Tryd.func84 (by kernel_rfl) rfl #[.int .i64 16] rfl (by (try simp only [List.map_toArray, List.map_cons, List.map_nil]); first | done | rfl) ?_; (with_reducible refine (pow2C _).mono ?_); rintro e wA ⟨rfl, hb⟩; refine ⟨_, rfl, ?_⟩; have nG_ := Aside0.mk (GG.mono HG.out (lift2 hb)); clear HG; have HG := nG_; clear nG_; have n0_ := Aside0.mk (bL B_g12.out hb); have nB_ := Aside0.mk (bbL HB.out hb); clear B_g12 HB; have B_g12 := n0_; have HB := nB_; clear n0_ nB_ ; clear hb) | ((with_reducible refine gate_callee (f := 85) rfl ?_); refine goesL_ (some 37) rfl rfl Tryd.func85 (by kernel_rfl) rfl #[.int .u64 16] rfl (by (try simp only [List.map_toArray, List.map_cons, List.map_nil]); first | done | rfl) ?_; (with_reducible refine (tz _ HG.out).mono ?_); rintro e wB ⟨rfl, hwB⟩; refine ⟨_, rfl, ?_⟩; subst hwB))
  have hlen : (hx h).length ≤ 16 := hx_len 16 h (Nat.lt_of_le_of_lt hh (by decide)) (by omega)
  go_loopg [1, 13] h (fun kq v1 v13 w' => ∃ d : List UInt8, v1 = .int .u64 (kq : Nat) ∧ v13 = .int .i64 ((65 - d.length : Nat) : Int) ∧ Hid (kq ≤ 18446744073709551615) ∧ Aside0 (hx h = hx kq ++ d) ∧ Aside0 (w'.heap[g12]? = some (.cells (arr d) 124 (0, 0))) ∧ Aside0 (Below w.heap.size w w'))
  case atStart => exact ⟨[], rfl, rfl, hh, ⟨by simp⟩, B_g12, HB⟩
  case round =>
    clear B_g12 HB HG
    obtain ⟨d, rfl, rfl, HK, HX, B_g12, HB⟩ := hrel
    have hk := HK.out
    have hd : d.length < 16 := by
      have h1 := HX.out
      have h2 : 0 < (hx gk).length := by
        rw [hx]
        split <;> simp
      have h3 : (hx h).length = (hx gk).length + d.length := by rw [h1]; simp
      omega
    have hi1 : IntKind.i64.wrap (((65 - d.length : Nat) : Int) - 1) = ((64 - d.length : Nat) : Int) := (wrap_i64 (by omega) (by omega)).trans (by omega)
    have hand := and15 gk hk
    have harr : Tryd.prog.arrayLen 124 = 65 := by kernel_rfl
    have hle : ((64 - d.length : Nat) : Int) ≤ Tryd.prog.arrayLen 124 := by rw [harr]; omega
    have hdg : digs[gk % 16]'(by simp [digs, ByteArray.size]; omega) = hexD (gk % 16) := dig_get _ (Nat.mod_lt _ (by omega))
    have hsz := arr_size (d := d) (by omega)
    have hil : ((64 - d.length : Nat) : Int) < 65 := by omega
    have hi0 : (0 : Int) ≤ ((64 - d.length : Nat) : Int) := by omega
    have hcell : wr.cell? ⟨g12, 64 - d.length, none⟩ = some (.int .u8 0) := by
      refine (blk_cell B_g12.out _).trans ?_
      rw [arr]
      simp [List.getElem?_append_left, show 64 - d.length < 65 - d.length by omega]
    have hfr := blk_frozen B_g12.out (64 - d.length)
    by_cases hge : 16 ≤ gk
    · have hgd : decide ((16 : Int) ≤ (gk : Int)) = true := decide_eq_true (by omega)
      have hgI : (16 : Int) ≤ (gk : Int) := by omega
      go_wp2
      go_roundg (gk / 16)
      case measure => omega
      case rel =>
        have hX := HX.out
        rw [hx_big gk (by omega), List.append_assoc] at hX
        refine ⟨hexD (gk % 16) :: d, by rw [show ((gk / 16 : Nat) : Int) = (gk : Int) / 16 by omega], by simp only [List.length_cons]; rw [show 65 - (d.length + 1) = 64 - d.length by omega], by simp only [Hid]; omega, ⟨hX⟩, ⟨?_⟩, ⟨below_set HB.out GE_g12⟩⟩
        refine blk_put (cs' := arr (hexD (gk % 16) :: d)) B_g12.out (64 - d.length) _ ?_
        exact (congrArg (fun b : UInt8 => (arr d).setIfInBounds (64 - d.length) (Value.int .u8 (b.toNat : Int))) (dig_get (gk % 16) (Nat.mod_lt _ (by omega)))).trans (arr_put _ (by omega))
    · have hgd : decide ((16 : Int) ≤ (gk : Int)) = false := decide_eq_false (by omega)
      have hgI : ¬ (16 : Int) ≤ (gk : Int) := by omega
      have hdg2 : digs[gk]'(by simp [digs, ByteArray.size]; omega) = hexD gk := dig_get _ (by omega)
      go_wp2_with (first | ((with_reducible refine gate_dst (N := 100) rfl ?_); have nb_ := Aside0.mk (show (wr.setCell ⟨g12, 64 - d.length, none⟩ (.int .u8 ((digs[gk]'(by simp [digs, ByteArray.size]; omega)).toNat : Int))).heap[g12]? = some (.cells (arr (hexD gk :: d)) 124 (0, 0)) from blk_put B_g12.out (64 - d.length) _ ((congrArg (fun b : UInt8 => (arr d).setIfInBounds (64 - d.length) (Value.int .u8 (b.toNat : Int))) (dig_get gk (by omega))).trans (arr_put _ (by omega)))); refine Kd.event_run rfl (sl124 _ _ g12 (64 - d.length) _ (by omega) rfl rfl rfl) ?_) | ((with_reducible refine gate_dst (N := 101) rfl ?_); refine Kd.event_run rfl (cv56 _ _ g12 (hexD gk :: d) _ (by simp only [List.length_cons]; omega) (by simp) rfl (by simp only [List.length_cons]; rw [show 65 - (d.length + 1) = 64 - d.length by omega, show d.length + 1 = 65 - (64 - d.length) by omega]; rfl) nb_.out) ?_))
      go_ret2
      have hX := HX.out
      rw [hx_small gk (by omega)] at hX
      exact ⟨by rw [hX]; rfl, below_set HB.out GE_g12⟩
theorem fuC (h : Nat) (hh : h ≤ 18446744073709551615) (w : World) (hG : GG w) : Calls Tryd.prog 63 #[.int .u64 h, .int .i64 16] w fun e w' => e = .returned (.string ⟨(hx h).toArray⟩) ∧ Below w.heap.size w w' := by
  have HG := Aside0.mk hG
  have HH := Aside0.mk hh
  clear hG hh
  go_enter Tryd.func63, Tryd.ntmps63
  go_wp2_with (first | ((with_reducible refine gate_callee (f := 76) rfl ?_); refine goesL_ (some 28) rfl rfl Tryd.func76 (by kernel_rfl) rfl #[.slice none 0 0, .int .u64 h, .int .i64 16, .bool false, .bool false] rfl (by (try simp only [List.map_toArray, List.map_cons, List.map_nil]); first | done | rfl) ?_; (with_reducible refine (fbC h HH.out _ HG.out).mono ?_); rintro e wA ⟨rfl, hb⟩; refine ⟨_, rfl, ?_⟩; have HB := Aside0.mk hb; clear hb))
  go_ret
  exact ⟨rfl, HB.out⟩
theorem fmtC (h : Nat) (hh : h ≤ 18446744073709551615) (w : World) (hG : GG w) : Calls Tryd.prog 47 #[.int .u64 h, .int .i64 16] w fun e w' => e = .returned (.string ⟨(hx h).toArray⟩) ∧ Below w.heap.size w w' := by
  have HG := Aside0.mk hG
  have HH := Aside0.mk hh
  clear hG hh
  go_enter Tryd.func47, Tryd.ntmps47
  go_wp2_with (first | ((with_reducible refine gate_callee (f := 63) rfl ?_); refine goesL_ (some 7) rfl rfl Tryd.func63 (by kernel_rfl) rfl #[.int .u64 h, .int .i64 16] rfl (by (try simp only [List.map_toArray, List.map_cons, List.map_nil]); first | done | rfl) ?_; (with_reducible refine (fuC h HH.out _ HG.out).mono ?_); rintro e wA ⟨rfl, hb⟩; refine ⟨_, rfl, ?_⟩; have HB := Aside0.mk hb; clear hb))
  go_ret
  exact ⟨rfl, HB.out⟩
end Go.Proofs.YtcmphojichgfeaaDoor.QC
