/- The codec seat: the reader's value, walked by hand. -/
import Derived.Test.YtcmphojichgfeaaDoorCP0
import Derived.Test.YtcmphojichgfeaaDoorCB2
import Derived.Test.YtcmphojichgfeaaDoorCDR
namespace Go.Proofs.YtcmphojichgfeaaDoor.QC
open Go.RowKit Go.Proofs.YtcmphojichgfeaaDoorW.PrintWords Go.Proofs.YtcmphojichgfeaaDoorW.PrintLast Go.Proofs.YtcmphojichgfeaaDoorW.PrintMore
set_option linter.unusedVariables false
set_option linter.unusedSimpArgs false
attribute [local go_sem] max2_int min2_int max_two min_two
/-- The walk's state: the reader at block g, the result's cell at g4. -/
structure SV (w0 w W : World) (g g4 : Nat) (cs : Array Value) (s : ByteArray) (i : Int) (bad : Bool) : Prop where
  rd : IsS69 w0 W g s i bad
  b4 : W.heap[g4]? = some (.cells cs 32 (0, 0))
  ge4 : w.heap.size ≤ g4
  below : Below w0.heap.size w0 W
  keep : KeepBut w W g none
  hg : g < w.heap.size
  hw : w0.heap.size ≤ w.heap.size
section
variable {w0 w W W' : World} {g g4 : Nat} {cs : Array Value} {s s' : ByteArray} {i i' : Int} {bad bad' : Bool}
theorem SV.sz (h : SV w0 w W g g4 cs s i bad) : w0.heap.size ≤ W.heap.size := Nat.le_trans h.hw h.keep.1
theorem SV.step (h : SV w0 w W g g4 cs s i bad) (hb : Below W.heap.size W W') : SV w0 w W' g g4 cs s i bad :=
  ⟨h.rd.below hb, blk_below h.b4 hb, h.ge4, below_then h.below h.sz hb, h.keep.trans (KeepBut.of_below hb g none) (.inl rfl), h.hg, h.hw⟩
theorem SV.lift [l : Lift W W'] (h : SV w0 w W g g4 cs s i bad) : SV w0 w W' g g4 cs s i bad := h.step l.h
theorem SV.ne (h : SV w0 w W g g4 cs s i bad) : g4 ≠ g := by have := h.ge4; have := h.hg; omega
theorem SV.call (h : SV w0 w W g g4 cs s i bad) (hI : IsS69 w0 W' g s' i' bad') (hB : Below w0.heap.size w0 W') (hK : KeepBut W W' g none) : SV w0 w W' g g4 cs s' i' bad' :=
  ⟨hI, (hK.2 g4 (blk_lt h.b4) h.ne (by simp)).trans h.b4, h.ge4, hB, h.keep.trans hK (.inl rfl), h.hg, h.hw⟩
theorem SV.store4 {a b c d : Value} (h : SV w0 w W g g4 #[a, b, c, d] s i bad) (u0 u1 u2 u3 : Value) :
    SV w0 w ((((W.setCell ⟨g4, 0, none⟩ u0).setCell ⟨g4, 1, none⟩ u1).setCell ⟨g4, 2, none⟩ u2).setCell ⟨g4, 3, none⟩ u3) g g4 #[u0, u1, u2, u3] s i bad := by
  have hn := h.ne
  have hn' : g ≠ g4 := hn.symm
  refine ⟨⟨st4_far h.rd.1 hn' u0 u1 u2 u3, h.rd.2⟩, st4_put h.b4 u0 u1 u2 u3, h.ge4, st4_B h.below (Nat.le_trans h.hw h.ge4) u0 u1 u2 u3, ⟨by simpa using h.keep.1, fun k hk hkg hr => ?_⟩, h.hg, h.hw⟩
  have hk4 : k ≠ g4 := by have := h.ge4; omega
  exact (Below.heap_setCell _ ⟨g4, 3, none⟩ u3 k hk4).trans ((Below.heap_setCell _ ⟨g4, 2, none⟩ u2 k hk4).trans ((Below.heap_setCell _ ⟨g4, 1, none⟩ u1 k hk4).trans ((Below.heap_setCell _ ⟨g4, 0, none⟩ u0 k hk4).trans (h.keep.2 k hk hkg hr))))
theorem SV.own (h : SV w0 w W g g4 cs s i bad) {W1 : World} {v : Value} {l : List S32} (hv : Kd.R k32 32 W1 W.heap.size (fun _ => True) v l) : Kd.R k32 32 W1 w0.heap.size (fun k => w.heap.size ≤ k ∧ k ≠ g4) v l :=
  Kd.R_lower (Kd.R_mono (Kd.R_bound hv) (fun k hk => by
    have h1 := h.keep.1
    have h2 := blk_lt h.b4
    have h3 := hk.2.1
    exact ⟨by omega, by omega⟩)) h.sz
theorem SV.far3 (h : SV w0 w W g g4 cs s i bad) {g8 j : Nat} (h8 : w.heap.size ≤ g8) (hn : g8 ≠ g4) (u : Value) : SV w0 w (W.setCell ⟨g8, j, none⟩ u) g g4 cs s i bad := by
  have h1 : g ≠ g8 := by have := h.hg; omega
  refine ⟨h.rd.far h1 u, blk_far h.b4 hn.symm u, h.ge4, below_set h.below (Nat.le_trans h.hw h8), ⟨by simpa using h.keep.1, fun k hk hkg hr => ?_⟩, h.hg, h.hw⟩
  exact (Below.heap_setCell _ ⟨g8, j, none⟩ u k (by simp only; omega)).trans (h.keep.2 k hk hkg hr)
theorem SV.set_1 (h : SV w0 w W g g4 cs s i bad) (x : Int) : SV w0 w (W.setCell ⟨g, 1, none⟩ (.int .i64 x)) g g4 cs s x bad :=
  ⟨h.rd.set_1 x, blk_far h.b4 h.ne _, h.ge4, below_set h.below h.rd.2, h.keep.set_ 1 _, h.hg, h.hw⟩
theorem SV.set_2 (h : SV w0 w W g g4 cs s i bad) (x : Bool) : SV w0 w (W.setCell ⟨g, 2, none⟩ (.bool x)) g g4 cs s i x :=
  ⟨h.rd.set_2 x, blk_far h.b4 h.ne _, h.ge4, below_set h.below h.rd.2, h.keep.set_ 2 _, h.hg, h.hw⟩
theorem SV.new (hI : IsS69 w0 w g s i bad) (hB : Below w0.heap.size w0 w) {a : Nat} (ha : a = W.heap.size) (hW : Below w.heap.size w W) (hb : Below W.heap.size W W') (hbox : W'.heap[a]? = some (.cells cs 32 (0, 0))) : SV w0 w W' g a cs s i bad := by
  have hb2 := below_step hW hb
  exact ⟨hI.below hb2, hbox, by rw [ha]; exact hW.size, below_then hB hB.size hb2, KeepBut.of_below hb2 g none, hI.lt, hB.size⟩
end
theorem c4 {W : World} {g : Nat} {t : TypeId} {a b c d : Value} (h : W.heap[g]? = some (.cells #[a, b, c, d] t (0, 0))) : W.cell? ⟨g, 0, none⟩ = some a ∧ W.cell? ⟨g, 1, none⟩ = some b ∧ W.cell? ⟨g, 2, none⟩ = some c ∧ W.cell? ⟨g, 3, none⟩ = some d ∧
    W.frozen? ⟨g, 0, none⟩ = false ∧ W.frozen? ⟨g, 1, none⟩ = false ∧ W.frozen? ⟨g, 2, none⟩ = false ∧ W.frozen? ⟨g, 3, none⟩ = false :=
  ⟨(blk_cell h 0).trans rfl, (blk_cell h 1).trans rfl, (blk_cell h 2).trans rfl, (blk_cell h 3).trans rfl, blk_frozen h 0, blk_frozen h 1, blk_frozen h 2, blk_frozen h 3⟩
theorem c3 {W : World} {g : Nat} {t : TypeId} {a b c : Value} (h : W.heap[g]? = some (.cells #[a, b, c] t (0, 0))) : W.cell? ⟨g, 0, none⟩ = some a ∧ W.cell? ⟨g, 1, none⟩ = some b ∧ W.cell? ⟨g, 2, none⟩ = some c ∧
    W.frozen? ⟨g, 0, none⟩ = false ∧ W.frozen? ⟨g, 1, none⟩ = false ∧ W.frozen? ⟨g, 2, none⟩ = false :=
  ⟨(blk_cell h 0).trans rfl, (blk_cell h 1).trans rfl, (blk_cell h 2).trans rfl, blk_frozen h 0, blk_frozen h 1, blk_frozen h 2⟩
/-- What reading answers. -/
def RdQ (s : ByteArray) (o : Option (S32 × Nat)) (w0 w : World) (g : Nat) (e : Ending) (w' : World) : Prop :=
  ∃ (x : S32) (v : Value) (j : Nat) (bad : Bool), e = .returned (.agg #[.int .i64 x.f0, .int .i64 x.f1, .string x.f2, v]) ∧ Kd.R k32 32 w' w0.heap.size (fun k => w.heap.size ≤ k) v x.f3 ∧ IsS69 w0 w' g s (j : Int) bad ∧
    Below w0.heap.size w0 w' ∧ KeepBut w w' g none ∧ (bad = false → o = some (x, j) ∧ j ≤ s.size) ∧ (bad = true → o = none)
theorem rdq_none {s : ByteArray} {o : Option (S32 × Nat)} {w0 w W : World} {g g4 : Nat} {j : Nat} (h : SV w0 w W g g4 #[.int .i64 0, .int .i64 0, .string (⟨#[]⟩ : ByteArray), .slice none 0 0] s (j : Int) true) (ho : o = none) : RdQ s o w0 w g (.returned (.agg #[.int .i64 0, .int .i64 0, .string (⟨#[]⟩ : ByteArray), .slice none 0 0])) W :=
  ⟨⟨0, 0, ⟨#[]⟩, []⟩, .slice none 0 0, j, true, rfl, Kd.R_nil _ _ _ _ _, h.rd, h.below, h.keep, fun h => Bool.noConfusion h, fun _ => ho⟩
theorem rdq_some {s : ByteArray} {o : Option (S32 × Nat)} {w0 w W : World} {g g4 : Nat} {j : Nat} {cs : Array Value} (x : S32) (v : Value) (h : SV w0 w W g g4 cs s (j : Int) false) (hv : Kd.R k32 32 W w0.heap.size (fun k => w.heap.size ≤ k) v x.f3) (ho : o = some (x, j)) (hj : j ≤ s.size) : RdQ s o w0 w g (.returned (.agg #[.int .i64 x.f0, .int .i64 x.f1, .string x.f2, v])) W :=
  ⟨x, v, j, false, rfl, hv, h.rd, h.below, h.keep, fun _ => ⟨ho, hj⟩, fun h => Bool.noConfusion h⟩
abbrev OkR (d : Nat) (s : ByteArray) : Prop := ∀ (i g : Nat) (w0 w : World) (N : Int), N + (d : Int) = 17 → IsS69 w0 w g s (i : Int) false → Below w0.heap.size w0 w → i ≤ s.size → Calls Tryd.prog 38 #[.pointer (some ⟨g, 0, none⟩), .int .i64 N] w (RdQ s (rdV s d i) w0 w g)
set_option maxHeartbeats 8000000 in
set_option maxRecDepth 100000 in
theorem valE (d : Nat) (s : ByteArray) (i g : Nat) (w0 w : World) (hI : IsS69 w0 w g s (i : Int) false) (hB : Below w0.heap.size w0 w) (n : Int) (h : s.size ≤ i) : Calls Tryd.prog 38 #[.pointer (some ⟨g, 0, none⟩), .int .i64 n] w (RdQ s none w0 w g) := by
  have HI := Aside0.mk hI
  have HB := Aside0.mk hB
  clear hI hB
  go_enter Tryd.func38, Tryd.ntmps38
  go_wp2_with (first | ((with_reducible refine gate_dst (N := 4) rfl ?_); refine box_event ?hg (N := 4) ?hd (cs := #[.int .i64 0, .int .i64 0, .string (⟨#[]⟩ : ByteArray), .slice none 0 0]) (t := 32) ?hr ?_; (case hd => rfl); (case hg => rfl); (case hr => first | (go_simp; done) | (go_simp; rfl)); intro g4 hg w4 hbox hb; have HS := Aside0.mk (SV.new (cs := #[.int .i64 0, .int .i64 0, .string (⟨#[]⟩ : ByteArray), .slice none 0 0]) HI.out HB.out hg (blL (Below.refl _ _)) hb hbox); clear hb hbox hg; obtain ⟨hc_g_0, hc_g_1, hc_g_2, hf_g_0, hf_g_1, hf_g_2⟩ := c3 HS.out.rd.1; obtain ⟨hc_4_0, hc_4_1, hc_4_2, hc_4_3, hf_4_0, hf_4_1, hf_4_2, hf_4_3⟩ := c4 HS.out.b4; have hn_4 := HS.out.ne; have hn_4' := hn_4.symm) | ((with_reducible refine gate_callee (f := 57) rfl ?_); refine goesL_ (some 11) rfl rfl Tryd.func57 (by kernel_rfl) rfl #[.pointer (some ⟨g, 0, none⟩)] rfl (by (try simp only [List.map_toArray, List.map_cons, List.map_nil]); first | done | rfl) ?_; (with_reducible refine (codec_reader_byte.calls g s (i : Int) false _ _ _ _ w0 _ (by exact (SV.lift HS.out).rd) (by exact (SV.lift HS.out).below) (byteE s i h)).mono ?_); rintro e w5 ⟨rfl, hI, hB, hK⟩; refine ⟨_, rfl, ?_⟩; have HS1 := Aside0.mk ((SV.lift HS.out).call hI hB hK); clear HS hI hB hK; (try clear hc_g_0 hc_g_1 hc_g_2 hf_g_0 hf_g_1 hf_g_2 hc_4_0 hc_4_1 hc_4_2 hc_4_3 hf_4_0 hf_4_1 hf_4_2 hf_4_3 hn_4 hn_4'); have HS := HS1; clear HS1; obtain ⟨hc_g_0, hc_g_1, hc_g_2, hf_g_0, hf_g_1, hf_g_2⟩ := c3 HS.out.rd.1; obtain ⟨hc_4_0, hc_4_1, hc_4_2, hc_4_3, hf_4_0, hf_4_1, hf_4_2, hf_4_3⟩ := c4 HS.out.b4; have hn_4 := HS.out.ne; have hn_4' := hn_4.symm))
  refine bodyPost_ret (results_cell_row rfl _ _ g4 32 #[.int .i64 0, .int .i64 0, .string (⟨#[]⟩ : ByteArray), .slice none 0 0] (0, 0) _ rfl ((SV.store4 (SV.set_2 (SV.lift HS.out) true) (.int .i64 0) (.int .i64 0) (.string (⟨#[]⟩ : ByteArray)) (.slice none 0 0)).b4) Tryd.underlying32 rfl (by kernel_rfl)) rfl ?_
  exact rdq_none (SV.store4 (SV.set_2 (SV.lift HS.out) true) (.int .i64 0) (.int .i64 0) (.string (⟨#[]⟩ : ByteArray)) (.slice none 0 0)) rfl
set_option maxHeartbeats 8000000 in
set_option maxRecDepth 100000 in
theorem valO (s : ByteArray) (i g : Nat) (w0 w : World) (hI : IsS69 w0 w g s (i : Int) false) (hB : Below w0.heap.size w0 w) (n : Int) (h : i < s.size) (hs : s.size ≤ 1000000) (b : Nat) (hb : byteAt s i = b) (h1 : b ≠ 110) (h2 : b ≠ 116) (h3 : b ≠ 108) : Calls Tryd.prog 38 #[.pointer (some ⟨g, 0, none⟩), .int .i64 n] w (RdQ s none w0 w g) := by
  have HI := Aside0.mk hI
  have HB := Aside0.mk hB
  have HF := Aside0.mk (byteF s i h hs)
  rw [hb] at HF
  clear hI hB
  have e1 : ((b : Int) == 110) = false := beq_eq_false_iff_ne.mpr (by omega)
  have e2 : ((b : Int) == 116) = false := beq_eq_false_iff_ne.mpr (by omega)
  have e3 : ((b : Int) == 108) = false := beq_eq_false_iff_ne.mpr (by omega)
  go_enter Tryd.func38, Tryd.ntmps38
  go_wp2_with (first | ((with_reducible refine gate_dst (N := 4) rfl ?_); refine box_event ?hg (N := 4) ?hd (cs := #[.int .i64 0, .int .i64 0, .string (⟨#[]⟩ : ByteArray), .slice none 0 0]) (t := 32) ?hr ?_; (case hd => rfl); (case hg => rfl); (case hr => first | (go_simp; done) | (go_simp; rfl)); intro g4 hg w4 hbox hb; have HS := Aside0.mk (SV.new (cs := #[.int .i64 0, .int .i64 0, .string (⟨#[]⟩ : ByteArray), .slice none 0 0]) HI.out HB.out hg (blL (Below.refl _ _)) hb hbox); clear hb hbox hg; obtain ⟨hc_g_0, hc_g_1, hc_g_2, hf_g_0, hf_g_1, hf_g_2⟩ := c3 HS.out.rd.1; obtain ⟨hc_4_0, hc_4_1, hc_4_2, hc_4_3, hf_4_0, hf_4_1, hf_4_2, hf_4_3⟩ := c4 HS.out.b4; have hn_4 := HS.out.ne; have hn_4' := hn_4.symm) | ((with_reducible refine gate_callee (f := 57) rfl ?_); refine goesL_ (some 11) rfl rfl Tryd.func57 (by kernel_rfl) rfl #[.pointer (some ⟨g, 0, none⟩)] rfl (by (try simp only [List.map_toArray, List.map_cons, List.map_nil]); first | done | rfl) ?_; (with_reducible refine (codec_reader_byte.calls g s (i : Int) false _ _ _ _ w0 _ (by exact (SV.lift HS.out).rd) (by exact (SV.lift HS.out).below) (HF.out)).mono ?_); rintro e w5 ⟨rfl, hI, hB, hK⟩; refine ⟨_, rfl, ?_⟩; have HS1 := Aside0.mk ((SV.lift HS.out).call hI hB hK); clear HS hI hB hK; (try clear hc_g_0 hc_g_1 hc_g_2 hf_g_0 hf_g_1 hf_g_2 hc_4_0 hc_4_1 hc_4_2 hc_4_3 hf_4_0 hf_4_1 hf_4_2 hf_4_3 hn_4 hn_4'); have HS := HS1; clear HS1; obtain ⟨hc_g_0, hc_g_1, hc_g_2, hf_g_0, hf_g_1, hf_g_2⟩ := c3 HS.out.rd.1; obtain ⟨hc_4_0, hc_4_1, hc_4_2, hc_4_3, hf_4_0, hf_4_1, hf_4_2, hf_4_3⟩ := c4 HS.out.b4; have hn_4 := HS.out.ne; have hn_4' := hn_4.symm))
  refine bodyPost_ret (results_cell_row rfl _ _ g4 32 #[.int .i64 0, .int .i64 0, .string (⟨#[]⟩ : ByteArray), .slice none 0 0] (0, 0) _ rfl ((SV.store4 (SV.set_2 (SV.lift HS.out) true) (.int .i64 0) (.int .i64 0) (.string (⟨#[]⟩ : ByteArray)) (.slice none 0 0)).b4) Tryd.underlying32 rfl (by kernel_rfl)) rfl ?_
  exact rdq_none (SV.store4 (SV.set_2 (SV.lift HS.out) true) (.int .i64 0) (.int .i64 0) (.string (⟨#[]⟩ : ByteArray)) (.slice none 0 0)) rfl
theorem rdq_any {s : ByteArray} {o : Option (S32 × Nat)} {w0 w W : World} {g g4 : Nat} {j : Nat} {bad : Bool} {cs : Array Value} (x : S32) (v : Value) (h : SV w0 w W g g4 cs s (j : Int) bad) (hv : Kd.R k32 32 W w0.heap.size (fun k => w.heap.size ≤ k) v x.f3) (h1 : bad = false → o = some (x, j) ∧ j ≤ s.size) (h2 : bad = true → o = none) : RdQ s o w0 w g (.returned (.agg #[.int .i64 x.f0, .int .i64 x.f1, .string x.f2, v])) W :=
  ⟨x, v, j, bad, rfl, hv, h.rd, h.below, h.keep, h1, h2⟩
theorem bv64i (x : Nat) (h : x ≤ 18446744073709551615) : (BitVec.ofInt IntKind.i64.bits (x : Int)).toNat = x := by
  rw [BitVec.toNat_ofInt]
  simp only [IntKind.bits]
  omega
theorem and1 (m : Nat) (h : m < 18446744073709551616) : Go.bits .and .u64 (m : Int) 1 = ((m % 2 : Nat) : Int) := by
  unfold Go.bits
  simp only []
  rw [BitVec.toNat_and, bv64 m (by omega), show (1 : Int) = ((1 : Nat) : Int) by omega, bv64 1 (by omega), Nat.and_one_is_mod]
  exact wrap_u64 (by omega) (by omega)
theorem xor0 (q : Nat) (h : q < 9223372036854775808) : Go.bits .xor .i64 (q : Int) 0 = (q : Int) := by
  unfold Go.bits
  simp only []
  rw [show (0 : Int) = ((0 : Nat) : Int) by omega, BitVec.toNat_xor, bv64i q (by omega), bv64i 0 (by omega), Nat.xor_zero]
  exact wrap_i64 (by omega) (by omega)
theorem xorM (q : Nat) (h : q < 9223372036854775808) : Go.bits .xor .i64 (q : Int) (-1) = -(q : Int) - 1 := by
  unfold Go.bits
  simp only []
  have e : BitVec.ofInt IntKind.i64.bits (-1) = BitVec.allOnes IntKind.i64.bits := by decide
  rw [e, BitVec.xor_allOnes, BitVec.toNat_not, bv64i q (by omega)]
  simp only [IntKind.bits]
  rw [show (2 : Nat) ^ 64 - 1 - q = 18446744073709551615 - q by rw [show (2 : Nat) ^ 64 = 18446744073709551616 by decide]]
  have : ∀ n : Int, IntKind.i64.wrap n = if n % 18446744073709551616 ≥ 9223372036854775808 then n % 18446744073709551616 - 18446744073709551616 else n % 18446744073709551616 := by
    intro n
    simp [IntKind.wrap, IntKind.signed, IntKind.bits]
  rw [this]
  split <;> omega
theorem R_far4 {α : Type} {d : Kd α} {e base g4 : Nat} {W : World} {ok : Nat → Prop} {v : Value} {l : List α} (h : d.R e W base ok v l) (hk : ∀ k, ok k → k ≠ g4) (u0 u1 u2 u3 : Value) :
    d.R e ((((W.setCell ⟨g4, 0, none⟩ u0).setCell ⟨g4, 1, none⟩ u1).setCell ⟨g4, 2, none⟩ u2).setCell ⟨g4, 3, none⟩ u3) base ok v l :=
  Kd.R_far (p := ⟨g4, 3, none⟩) (Kd.R_far (p := ⟨g4, 2, none⟩) (Kd.R_far (p := ⟨g4, 1, none⟩) (Kd.R_far (p := ⟨g4, 0, none⟩) h hk u0) hk u1) hk u2) hk u3
theorem unzW (m : Nat) (h : m < 18446744073709551616) : Go.bits .xor .i64 ((m : Int) / 2) (wrap64 (-wrap64 (Go.bits .and .u64 (m : Int) 1))) = unz m := by
  rw [and1 m h, show (m : Int) / 2 = ((m / 2 : Nat) : Int) by omega]
  unfold unz
  by_cases h2 : m % 2 = 0
  · rw [if_pos h2, h2, show wrap64 (-wrap64 ((0 : Nat) : Int)) = 0 by unfold wrap64; omega, xor0 _ (by omega)]
  · rw [if_neg h2, show m % 2 = 1 by omega, show wrap64 (-wrap64 ((1 : Nat) : Int)) = -1 by unfold wrap64; omega, xorM _ (by omega)]
set_option maxHeartbeats 8000000 in
set_option maxRecDepth 100000 in
theorem valN (s : ByteArray) (i g : Nat) (w0 w : World) (hI : IsS69 w0 w g s (i : Int) false) (hB : Below w0.heap.size w0 w) (h : i < s.size) (hs : s.size ≤ 1000000) (m j : Nat) (bad : Bool) (hm : m < 18446744073709551616) (hc : codec_reader_count.f 20 s ((i + 1 : Nat) : Int) false = some ((m : Int), s, (j : Int), bad)) (hb : byteAt s i = 110) (o : Option (S32 × Nat)) (h1 : bad = false → o = some (⟨1, unz m, ⟨#[]⟩, []⟩, j) ∧ j ≤ s.size) (h2 : bad = true → o = none) (n : Int) : Calls Tryd.prog 38 #[.pointer (some ⟨g, 0, none⟩), .int .i64 n] w (RdQ s o w0 w g) := by
  have HI := Aside0.mk hI
  have HB := Aside0.mk hB
  have HF := Aside0.mk (byteF s i h hs)
  rw [hb] at HF
  have HC := Aside0.mk hc
  have H1 := Aside0.mk h1
  have H2 := Aside0.mk h2
  clear hI hB hc h1 h2
  go_enter Tryd.func38, Tryd.ntmps38
  go_wp2_with (first | ((with_reducible refine gate_dst (N := 4) rfl ?_); refine box_event ?hg (N := 4) ?hd (cs := #[.int .i64 0, .int .i64 0, .string (⟨#[]⟩ : ByteArray), .slice none 0 0]) (t := 32) ?hr ?_; (case hd => rfl); (case hg => rfl); (case hr => first | (go_simp; done) | (go_simp; rfl)); intro g4 hg w4 hbox hb; have HS := Aside0.mk (SV.new (cs := #[.int .i64 0, .int .i64 0, .string (⟨#[]⟩ : ByteArray), .slice none 0 0]) HI.out HB.out hg (blL (Below.refl _ _)) hb hbox); clear hb hbox hg; obtain ⟨hc_g_0, hc_g_1, hc_g_2, hf_g_0, hf_g_1, hf_g_2⟩ := c3 HS.out.rd.1; obtain ⟨hc_4_0, hc_4_1, hc_4_2, hc_4_3, hf_4_0, hf_4_1, hf_4_2, hf_4_3⟩ := c4 HS.out.b4; have hn_4 := HS.out.ne; have hn_4' := hn_4.symm) | ((with_reducible refine gate_callee (f := 57) rfl ?_); refine goesL_ (some 11) rfl rfl Tryd.func57 (by kernel_rfl) rfl #[.pointer (some ⟨g, 0, none⟩)] rfl (by (try simp only [List.map_toArray, List.map_cons, List.map_nil]); first | done | rfl) ?_; (with_reducible refine (codec_reader_byte.calls g s (i : Int) false _ _ _ _ w0 _ (by exact (SV.lift HS.out).rd) (by exact (SV.lift HS.out).below) (HF.out)).mono ?_); rintro e w5 ⟨rfl, hI, hB, hK⟩; refine ⟨_, rfl, ?_⟩; have HS1 := Aside0.mk ((SV.lift HS.out).call hI hB hK); clear HS hI hB hK; (try clear hc_g_0 hc_g_1 hc_g_2 hf_g_0 hf_g_1 hf_g_2 hc_4_0 hc_4_1 hc_4_2 hc_4_3 hf_4_0 hf_4_1 hf_4_2 hf_4_3 hn_4 hn_4'); have HS := HS1; clear HS1; obtain ⟨hc_g_0, hc_g_1, hc_g_2, hf_g_0, hf_g_1, hf_g_2⟩ := c3 HS.out.rd.1; obtain ⟨hc_4_0, hc_4_1, hc_4_2, hc_4_3, hf_4_0, hf_4_1, hf_4_2, hf_4_3⟩ := c4 HS.out.b4; have hn_4 := HS.out.ne; have hn_4' := hn_4.symm) | ((with_reducible refine gate_callee (f := 58) rfl ?_); refine goesL_ (some 15) rfl rfl Tryd.func58 (by kernel_rfl) rfl #[.pointer (some ⟨g, 0, none⟩)] rfl (by (try simp only [List.map_toArray, List.map_cons, List.map_nil]); first | done | rfl) ?_; (with_reducible refine (codec_reader_count.calls 20 g s ((i + 1 : Nat)) false _ _ _ _ w0 _ (by exact (SV.lift HS.out).rd) (by exact (SV.lift HS.out).below) (HC.out)).mono ?_); rintro e w6 ⟨rfl, hI, hB, hK⟩; refine ⟨_, rfl, ?_⟩; have HS1 := Aside0.mk ((SV.lift HS.out).call hI hB hK); clear HS hI hB hK; (try clear hc_g_0 hc_g_1 hc_g_2 hf_g_0 hf_g_1 hf_g_2 hc_4_0 hc_4_1 hc_4_2 hc_4_3 hf_4_0 hf_4_1 hf_4_2 hf_4_3 hn_4 hn_4'); have HS := HS1; clear HS1; obtain ⟨hc_g_0, hc_g_1, hc_g_2, hf_g_0, hf_g_1, hf_g_2⟩ := c3 HS.out.rd.1; obtain ⟨hc_4_0, hc_4_1, hc_4_2, hc_4_3, hf_4_0, hf_4_1, hf_4_2, hf_4_3⟩ := c4 HS.out.b4; have hn_4 := HS.out.ne; have hn_4' := hn_4.symm) | ((with_reducible refine gate_callee (f := 29) rfl ?_); refine goesL_ (some 24) rfl rfl Tryd.func29 (by kernel_rfl) rfl #[.int .i64 (unz m)] rfl (by (try simp only [List.map_toArray, List.map_cons, List.map_nil]); rw [← unzW m hm]; rfl) ?_; (with_reducible refine (codec_Num.calls (unz m) _ _ _ _ _ rfl).mono ?_); rintro e w7 ⟨v3, rfl, hv, hb⟩; refine ⟨_, rfl, ?_⟩; have HS1 := Aside0.mk ((SV.lift HS.out).step hb); have HV := Aside0.mk (SV.own (SV.lift HS.out) hv); clear HS hb; (try clear hc_g_0 hc_g_1 hc_g_2 hf_g_0 hf_g_1 hf_g_2 hc_4_0 hc_4_1 hc_4_2 hc_4_3 hf_4_0 hf_4_1 hf_4_2 hf_4_3 hn_4 hn_4'); have HS := HS1; clear HS1; obtain ⟨hc_g_0, hc_g_1, hc_g_2, hf_g_0, hf_g_1, hf_g_2⟩ := c3 HS.out.rd.1; obtain ⟨hc_4_0, hc_4_1, hc_4_2, hc_4_3, hf_4_0, hf_4_1, hf_4_2, hf_4_3⟩ := c4 HS.out.b4; have hn_4 := HS.out.ne; have hn_4' := hn_4.symm; obtain ⟨A3, c3, rfl⟩ := Kd.R_slice hv; clear hv))
  have HS2 := SV.store4 HS.out (.int .i64 1) (.int .i64 (unz m)) (.string (⟨#[]⟩ : ByteArray)) (.slice A3 ([] : List S32).length c3)
  refine bodyPost_ret (results_cell_row rfl _ _ g4 32 #[.int .i64 1, .int .i64 (unz m), .string (⟨#[]⟩ : ByteArray), .slice A3 ([] : List S32).length c3] (0, 0) _ rfl (HS2.b4) Tryd.underlying32 rfl (by kernel_rfl)) rfl ?_
  exact rdq_any ⟨1, unz m, ⟨#[]⟩, []⟩ _ HS2 (Kd.R_mono (R_far4 HV.out (fun k hk => hk.2) _ _ _ _) (fun _ hk => hk.1)) H1.out H2.out
/-! ### A region that draws its order, with a chain of events -/
structure JC (X : Nat → Option Value) (C : List Nat) (D : List (Nat × Nat)) (Ph : Nat → (Nat → Value) → World → Prop) (ls : Nat → Bool) (vals : Nat → Value) (w : World) : Prop where
  val : ∀ k v, X k = some v → ls k = true → vals k = v
  dc : ∀ i j, (i, j) ∈ D → ls i = true → ls j = true
  ph : ∃ n, (∀ m k, C[m]? = some k → (ls k = true ↔ m < n)) ∧ n ≤ C.length ∧ Ph n vals w
section
variable {X : Nat → Option Value} {C : List Nat} {D : List (Nat × Nat)} {Ph : Nat → (Nat → Value) → World → Prop} {ls : Nat → Bool} {vals : Nat → Value} {w w' : World}
theorem JC.init (h : Ph 0 vals w) : JC X C D Ph (fun _ => false) vals w := ⟨fun _ _ _ h => (by cases h), fun _ _ _ h => (by cases h), 0, fun m k _ => ⟨fun h => (by cases h), fun h => (by omega)⟩, Nat.zero_le _, h⟩
theorem JC.dcs (h : ∀ i j, (i, j) ∈ D → ls i = true → ls j = true) {i : Nat} (hD : ∀ j, (i, j) ∈ D → ls j = true) : ∀ a b, (a, b) ∈ D → DR.upd ls i true a = true → DR.upd ls i true b = true := by
  intro a b hm hl
  by_cases hb : b = i
  · rw [hb, DR.upd_eq]
  · rw [DR.upd_ne _ _ hb]
    by_cases ha : a = i
    · subst ha; exact hD b hm
    · rw [DR.upd_ne _ _ ha] at hl; exact h a b hm hl
theorem JC.vls (h : ∀ k v, X k = some v → ls k = true → vals k = v) {i : Nat} {v : Value} (hX : ∀ u, X i = some u → v = u) : ∀ k u, X k = some u → DR.upd ls i true k = true → DR.upd vals i v k = u := by
  intro k u hk hl
  by_cases hki : k = i
  · subst hki; rw [DR.upd_eq]; exact hX u hk
  · rw [DR.upd_ne _ _ hki] at hl ⊢; exact h k u hk hl
theorem JC.value (h : JC X C D Ph ls vals w) {i : Nat} {v : Value} (hX : X i = some v) (hC : i ∉ C) (hD : ∀ j, (i, j) ∈ D → ls j = true) (hP : ∀ n, Ph n vals w → Ph n (DR.upd vals i v) w) : JC X C D Ph (DR.upd ls i true) (DR.upd vals i v) w := by
  obtain ⟨n, h1, h2, h3⟩ := h.ph
  refine ⟨JC.vls h.val (fun u hu => by rw [hX] at hu; cases hu; rfl), JC.dcs h.dc hD, n, fun m k hk => ?_, h2, hP n h3⟩
  have : k ≠ i := fun e => hC (e ▸ List.mem_of_getElem? hk)
  rw [DR.upd_ne _ _ this]
  exact h1 m k hk
theorem JC.at_ (h : JC X C D Ph ls vals w) {i n : Nat} (hi : C[n]? = some i) (hl : ls i = false) (hp : n = 0 ∨ ∃ k, C[n - 1]? = some k ∧ ls k = true) : Ph n vals w := by
  obtain ⟨n', h1, h2, h3⟩ := h.ph
  have a1 : ¬ n < n' := fun hh => by rw [(h1 n i hi).2 hh] at hl; cases hl
  have a2 : n = 0 ∨ n - 1 < n' := by
    rcases hp with hp | ⟨k, hk, hlk⟩
    · exact .inl hp
    · exact .inr ((h1 _ k hk).1 hlk)
  have : n' = n := by omega
  rw [← this]
  exact h3
theorem JC.event (h : JC X C D Ph ls vals w) {i n : Nat} {v : Value} (hi : C[n]? = some i) (hnd : C.Nodup) (hX : X i = none) (hl : ls i = false) (hp : n = 0 ∨ ∃ k, C[n - 1]? = some k ∧ ls k = true) (hD : ∀ j, (i, j) ∈ D → ls j = true) (hP : Ph (n + 1) (DR.upd vals i v) w') : JC X C D Ph (DR.upd ls i true) (DR.upd vals i v) w' := by
  obtain ⟨n', h1, h2, h3⟩ := h.ph
  have a1 : ¬ n < n' := fun hh => by rw [(h1 n i hi).2 hh] at hl; cases hl
  have a2 : n = 0 ∨ n - 1 < n' := by
    rcases hp with hp | ⟨k, hk, hlk⟩
    · exact .inl hp
    · exact .inr ((h1 _ k hk).1 hlk)
  have hn : n' = n := by omega
  have hlt : n < C.length := (List.getElem?_eq_some_iff.1 hi).1
  refine ⟨JC.vls h.val (fun u hu => by rw [hX] at hu; cases hu), JC.dcs h.dc hD, n + 1, fun m k hk => ?_, hlt, hP⟩
  by_cases hk2 : k = i
  · subst hk2
    have hm : m = n := ((List.getElem?_inj hlt hnd).1 (hi.trans hk.symm)).symm
    subst hm
    rw [DR.upd_eq]
    simp
  · rw [DR.upd_ne _ _ hk2, h1 m k hk]
    have hmn : m ≠ n := by
      intro e
      subst e
      rw [hi] at hk
      cases hk
      exact hk2 rfl
    omega
theorem JC.fin (h : JC X C D Ph ls vals w) (hall : ∀ k ∈ C, ls k = true) : Ph C.length vals w := by
  obtain ⟨n, h1, h2, h3⟩ := h.ph
  have : n = C.length := by
    apply Decidable.by_contra
    intro hn
    have hlt : n < C.length := by omega
    have := (h1 n C[n] (List.getElem?_eq_getElem hlt)).1 (hall _ (List.getElem_mem hlt))
    omega
  rw [← this]
  exact h3
end
theorem deadR {s : ByteArray} {o : Option (S32 × Nat)} {w0 w W : World} {g g4 j : Nat} {b : Bool} (HS : Aside0 (SV w0 w W g g4 #[.int .i64 0, .int .i64 0, .string (⟨#[]⟩ : ByteArray), .slice none 0 0] s (j : Int) b)) (ho : o = none) : RdQ s o w0 w g (.returned (.agg #[.int .i64 0, .int .i64 0, .string (⟨#[]⟩ : ByteArray), .slice none 0 0])) ((((((W.setCell ⟨g, 2, none⟩ (.bool true)).setCell ⟨g4, 0, none⟩ (.int .i64 0)).setCell ⟨g4, 1, none⟩ (.int .i64 0)).setCell ⟨g4, 2, none⟩ (.string (⟨#[]⟩ : ByteArray))).setCell ⟨g4, 3, none⟩ (.slice none 0 0))) :=
  rdq_none (SV.store4 (SV.set_2 HS.out true) (.int .i64 0) (.int .i64 0) (.string (⟨#[]⟩ : ByteArray)) (.slice none 0 0)) ho
set_option maxHeartbeats 8000000 in
set_option maxRecDepth 100000 in
theorem valT0 (s : ByteArray) (i g : Nat) (w0 w : World) (hI : IsS69 w0 w g s (i : Int) false) (hB : Below w0.heap.size w0 w) (h : i < s.size) (hs : s.size ≤ 1000000) (m j : Nat) (bad : Bool) (hm : m < 18446744073709551616) (hc : codec_reader_count.f 20 s ((i + 1 : Nat) : Int) false = some ((m : Int), s, (j : Int), bad)) (hb : byteAt s i = 116) (o : Option (S32 × Nat)) (hj : j ≤ s.size) (h1 : bad = true ∨ ¬ m ≤ s.size - j) (h2 : o = none) (n : Int) : Calls Tryd.prog 38 #[.pointer (some ⟨g, 0, none⟩), .int .i64 n] w (RdQ s o w0 w g) := by
  cases bad with
  | true =>
    have HI := Aside0.mk hI
    have HB := Aside0.mk hB
    have HF := Aside0.mk (byteF s i h hs)
    rw [hb] at HF
    have HC := Aside0.mk hc
    have H1 := Aside0.mk h1
    have H2 := Aside0.mk h2
    clear hI hB hc h1 h2
    go_enter Tryd.func38, Tryd.ntmps38
    go_wp2_with (first | ((with_reducible refine gate_dst (N := 4) rfl ?_); refine box_event ?hg (N := 4) ?hd (cs := #[.int .i64 0, .int .i64 0, .string (⟨#[]⟩ : ByteArray), .slice none 0 0]) (t := 32) ?hr ?_; (case hd => rfl); (case hg => rfl); (case hr => first | (go_simp; done) | (go_simp; rfl)); intro g4 hg w4 hbox hb; have HS := Aside0.mk (SV.new (cs := #[.int .i64 0, .int .i64 0, .string (⟨#[]⟩ : ByteArray), .slice none 0 0]) HI.out HB.out hg (blL (Below.refl _ _)) hb hbox); clear hb hbox hg; obtain ⟨hc_g_0, hc_g_1, hc_g_2, hf_g_0, hf_g_1, hf_g_2⟩ := c3 HS.out.rd.1; obtain ⟨hc_4_0, hc_4_1, hc_4_2, hc_4_3, hf_4_0, hf_4_1, hf_4_2, hf_4_3⟩ := c4 HS.out.b4; have hn_4 := HS.out.ne; have hn_4' := hn_4.symm) | ((with_reducible refine gate_callee (f := 57) rfl ?_); refine goesL_ (some 11) rfl rfl Tryd.func57 (by kernel_rfl) rfl #[.pointer (some ⟨g, 0, none⟩)] rfl (by (try simp only [List.map_toArray, List.map_cons, List.map_nil]); first | done | rfl) ?_; (with_reducible refine (codec_reader_byte.calls g s (i : Int) false _ _ _ _ w0 _ (by exact (SV.lift HS.out).rd) (by exact (SV.lift HS.out).below) (HF.out)).mono ?_); rintro e w5 ⟨rfl, hI, hB, hK⟩; refine ⟨_, rfl, ?_⟩; have HS1 := Aside0.mk ((SV.lift HS.out).call hI hB hK); clear HS hI hB hK; (try clear hc_g_0 hc_g_1 hc_g_2 hf_g_0 hf_g_1 hf_g_2 hc_4_0 hc_4_1 hc_4_2 hc_4_3 hf_4_0 hf_4_1 hf_4_2 hf_4_3 hn_4 hn_4'); have HS := HS1; clear HS1; obtain ⟨hc_g_0, hc_g_1, hc_g_2, hf_g_0, hf_g_1, hf_g_2⟩ := c3 HS.out.rd.1; obtain ⟨hc_4_0, hc_4_1, hc_4_2, hc_4_3, hf_4_0, hf_4_1, hf_4_2, hf_4_3⟩ := c4 HS.out.b4; have hn_4 := HS.out.ne; have hn_4' := hn_4.symm) | ((with_reducible refine gate_callee (f := 58) rfl ?_); refine goesL_ (some 28) rfl rfl Tryd.func58 (by kernel_rfl) rfl #[.pointer (some ⟨g, 0, none⟩)] rfl (by (try simp only [List.map_toArray, List.map_cons, List.map_nil]); first | done | rfl) ?_; (with_reducible refine (codec_reader_count.calls 20 g s ((i + 1 : Nat)) false _ _ _ _ w0 _ (by exact (SV.lift HS.out).rd) (by exact (SV.lift HS.out).below) (HC.out)).mono ?_); rintro e w6 ⟨rfl, hI, hB, hK⟩; refine ⟨_, rfl, ?_⟩; have HS1 := Aside0.mk ((SV.lift HS.out).call hI hB hK); clear HS hI hB hK; (try clear hc_g_0 hc_g_1 hc_g_2 hf_g_0 hf_g_1 hf_g_2 hc_4_0 hc_4_1 hc_4_2 hc_4_3 hf_4_0 hf_4_1 hf_4_2 hf_4_3 hn_4 hn_4'); have HS := HS1; clear HS1; obtain ⟨hc_g_0, hc_g_1, hc_g_2, hf_g_0, hf_g_1, hf_g_2⟩ := c3 HS.out.rd.1; obtain ⟨hc_4_0, hc_4_1, hc_4_2, hc_4_3, hf_4_0, hf_4_1, hf_4_2, hf_4_3⟩ := c4 HS.out.b4; have hn_4 := HS.out.ne; have hn_4' := hn_4.symm))
    repeat (go_quiet (fail); try go_wp2)
    refine bodyPost_ret (results_cell_row rfl _ _ g4 32 #[.int .i64 0, .int .i64 0, .string (⟨#[]⟩ : ByteArray), .slice none 0 0] (0, 0) _ rfl ((SV.store4 (SV.set_2 (SV.lift HS.out) true) (.int .i64 0) (.int .i64 0) (.string (⟨#[]⟩ : ByteArray)) (.slice none 0 0)).b4) Tryd.underlying32 rfl (by kernel_rfl)) rfl ?_
    exact deadR ⟨SV.lift HS.out⟩ H2.out
  | false =>
    have hd1 : decide ((s.size : Int) - (j : Int) < (m : Int)) = true := decide_eq_true (by simp at h1; omega)
    have hd2 : ¬ ((m : Int) ≤ (s.size : Int) - (j : Int)) := by simp at h1; omega
    have HI := Aside0.mk hI
    have HB := Aside0.mk hB
    have HF := Aside0.mk (byteF s i h hs)
    rw [hb] at HF
    have HC := Aside0.mk hc
    have H1 := Aside0.mk h1
    have H2 := Aside0.mk h2
    clear hI hB hc h1 h2
    go_enter Tryd.func38, Tryd.ntmps38
    go_wp2_with (first | ((with_reducible refine gate_dst (N := 4) rfl ?_); refine box_event ?hg (N := 4) ?hd (cs := #[.int .i64 0, .int .i64 0, .string (⟨#[]⟩ : ByteArray), .slice none 0 0]) (t := 32) ?hr ?_; (case hd => rfl); (case hg => rfl); (case hr => first | (go_simp; done) | (go_simp; rfl)); intro g4 hg w4 hbox hb; have HS := Aside0.mk (SV.new (cs := #[.int .i64 0, .int .i64 0, .string (⟨#[]⟩ : ByteArray), .slice none 0 0]) HI.out HB.out hg (blL (Below.refl _ _)) hb hbox); clear hb hbox hg; obtain ⟨hc_g_0, hc_g_1, hc_g_2, hf_g_0, hf_g_1, hf_g_2⟩ := c3 HS.out.rd.1; obtain ⟨hc_4_0, hc_4_1, hc_4_2, hc_4_3, hf_4_0, hf_4_1, hf_4_2, hf_4_3⟩ := c4 HS.out.b4; have hn_4 := HS.out.ne; have hn_4' := hn_4.symm) | ((with_reducible refine gate_callee (f := 57) rfl ?_); refine goesL_ (some 11) rfl rfl Tryd.func57 (by kernel_rfl) rfl #[.pointer (some ⟨g, 0, none⟩)] rfl (by (try simp only [List.map_toArray, List.map_cons, List.map_nil]); first | done | rfl) ?_; (with_reducible refine (codec_reader_byte.calls g s (i : Int) false _ _ _ _ w0 _ (by exact (SV.lift HS.out).rd) (by exact (SV.lift HS.out).below) (HF.out)).mono ?_); rintro e w5 ⟨rfl, hI, hB, hK⟩; refine ⟨_, rfl, ?_⟩; have HS1 := Aside0.mk ((SV.lift HS.out).call hI hB hK); clear HS hI hB hK; (try clear hc_g_0 hc_g_1 hc_g_2 hf_g_0 hf_g_1 hf_g_2 hc_4_0 hc_4_1 hc_4_2 hc_4_3 hf_4_0 hf_4_1 hf_4_2 hf_4_3 hn_4 hn_4'); have HS := HS1; clear HS1; obtain ⟨hc_g_0, hc_g_1, hc_g_2, hf_g_0, hf_g_1, hf_g_2⟩ := c3 HS.out.rd.1; obtain ⟨hc_4_0, hc_4_1, hc_4_2, hc_4_3, hf_4_0, hf_4_1, hf_4_2, hf_4_3⟩ := c4 HS.out.b4; have hn_4 := HS.out.ne; have hn_4' := hn_4.symm) | ((with_reducible refine gate_callee (f := 58) rfl ?_); refine goesL_ (some 28) rfl rfl Tryd.func58 (by kernel_rfl) rfl #[.pointer (some ⟨g, 0, none⟩)] rfl (by (try simp only [List.map_toArray, List.map_cons, List.map_nil]); first | done | rfl) ?_; (with_reducible refine (codec_reader_count.calls 20 g s ((i + 1 : Nat)) false _ _ _ _ w0 _ (by exact (SV.lift HS.out).rd) (by exact (SV.lift HS.out).below) (HC.out)).mono ?_); rintro e w6 ⟨rfl, hI, hB, hK⟩; refine ⟨_, rfl, ?_⟩; have HS1 := Aside0.mk ((SV.lift HS.out).call hI hB hK); clear HS hI hB hK; (try clear hc_g_0 hc_g_1 hc_g_2 hf_g_0 hf_g_1 hf_g_2 hc_4_0 hc_4_1 hc_4_2 hc_4_3 hf_4_0 hf_4_1 hf_4_2 hf_4_3 hn_4 hn_4'); have HS := HS1; clear HS1; obtain ⟨hc_g_0, hc_g_1, hc_g_2, hf_g_0, hf_g_1, hf_g_2⟩ := c3 HS.out.rd.1; obtain ⟨hc_4_0, hc_4_1, hc_4_2, hc_4_3, hf_4_0, hf_4_1, hf_4_2, hf_4_3⟩ := c4 HS.out.b4; have hn_4 := HS.out.ne; have hn_4' := hn_4.symm))
    repeat (go_quiet (fail); try go_wp2)
    refine bodyPost_ret (results_cell_row rfl _ _ g4 32 #[.int .i64 0, .int .i64 0, .string (⟨#[]⟩ : ByteArray), .slice none 0 0] (0, 0) _ rfl ((SV.store4 (SV.set_2 (SV.lift HS.out) true) (.int .i64 0) (.int .i64 0) (.string (⟨#[]⟩ : ByteArray)) (.slice none 0 0)).b4) Tryd.underlying32 rfl (by kernel_rfl)) rfl ?_
    exact deadR ⟨SV.lift HS.out⟩ H2.out
def P11 (w0 w : World) (g g4 : Nat) (s : ByteArray) (p : Int) (x : ByteArray) : Nat → Value → World → Prop
  | 0, _, W => SV w0 w W g g4 #[.int .i64 0, .int .i64 0, .string (⟨#[]⟩ : ByteArray), .slice none 0 0] s p false
  | 1, u, W => ∃ v3 : Value, u = .agg #[.int .i64 2, .int .i64 0, .string x, v3] ∧ Kd.R k32 32 W w0.heap.size (fun k => w.heap.size ≤ k ∧ k ≠ g4) v3 [] ∧ SV w0 w W g g4 #[.int .i64 0, .int .i64 0, .string (⟨#[]⟩ : ByteArray), .slice none 0 0] s p false
  | _ + 2, _, W => ∃ v3 : Value, Kd.R k32 32 W w0.heap.size (fun k => w.heap.size ≤ k ∧ k ≠ g4) v3 [] ∧ SV w0 w W g g4 #[.int .i64 2, .int .i64 0, .string x, v3] s p false
theorem P11.rd {w0 w : World} {g g4 : Nat} {s : ByteArray} {p : Int} {x : ByteArray} : ∀ {n : Nat} {u : Value} {W : World}, P11 w0 w g g4 s p x n u W → IsS69 w0 W g s p false
  | 0, _, _, h => SV.rd h
  | 1, _, _, ⟨_, _, _, h⟩ => SV.rd h
  | _ + 2, _, _, ⟨_, _, h⟩ => SV.rd h
set_option maxHeartbeats 8000000 in
set_option maxRecDepth 100000 in
theorem valT1 (s : ByteArray) (i g : Nat) (w0 w : World) (hI : IsS69 w0 w g s (i : Int) false) (hB : Below w0.heap.size w0 w) (h : i < s.size) (hs : s.size ≤ 1000000) (m j : Nat) (bad : Bool) (hm : m < 18446744073709551616) (hc : codec_reader_count.f 20 s ((i + 1 : Nat) : Int) false = some ((m : Int), s, (j : Int), bad)) (hb : byteAt s i = 116) (o : Option (S32 × Nat)) (hj : j ≤ s.size) (hbad : bad = false) (h1 : m ≤ s.size - j) (h2 : o = some (⟨2, 0, s.extract j (j + m), []⟩, j + m)) (n : Int) : Calls Tryd.prog 38 #[.pointer (some ⟨g, 0, none⟩), .int .i64 n] w (RdQ s o w0 w g) := by
  subst hbad
  have hd1 : decide ((s.size : Int) - (j : Int) < (m : Int)) = false := decide_eq_false (by omega)
  have hd2 : (m : Int) ≤ (s.size : Int) - (j : Int) := by omega
  have hjm : j + m ≤ s.size := by omega
  have HI := Aside0.mk hI
  have HB := Aside0.mk hB
  have HF := Aside0.mk (byteF s i h hs)
  rw [hb] at HF
  have HC := Aside0.mk hc
  have H1 := Aside0.mk h1
  have H2 := Aside0.mk h2
  clear hI hB hc h1 h2
  go_enter Tryd.func38, Tryd.ntmps38
  go_wp2_with (first | ((with_reducible refine gate_dst (N := 4) rfl ?_); refine box_event ?hg (N := 4) ?hd (cs := #[.int .i64 0, .int .i64 0, .string (⟨#[]⟩ : ByteArray), .slice none 0 0]) (t := 32) ?hr ?_; (case hd => rfl); (case hg => rfl); (case hr => first | (go_simp; done) | (go_simp; rfl)); intro g4 hg w4 hbox hb; have HS := Aside0.mk (SV.new (cs := #[.int .i64 0, .int .i64 0, .string (⟨#[]⟩ : ByteArray), .slice none 0 0]) HI.out HB.out hg (blL (Below.refl _ _)) hb hbox); clear hb hbox hg; obtain ⟨hc_g_0, hc_g_1, hc_g_2, hf_g_0, hf_g_1, hf_g_2⟩ := c3 HS.out.rd.1; obtain ⟨hc_4_0, hc_4_1, hc_4_2, hc_4_3, hf_4_0, hf_4_1, hf_4_2, hf_4_3⟩ := c4 HS.out.b4; have hn_4 := HS.out.ne; have hn_4' := hn_4.symm) | ((with_reducible refine gate_callee (f := 57) rfl ?_); refine goesL_ (some 11) rfl rfl Tryd.func57 (by kernel_rfl) rfl #[.pointer (some ⟨g, 0, none⟩)] rfl (by (try simp only [List.map_toArray, List.map_cons, List.map_nil]); first | done | rfl) ?_; (with_reducible refine (codec_reader_byte.calls g s (i : Int) false _ _ _ _ w0 _ (by exact (SV.lift HS.out).rd) (by exact (SV.lift HS.out).below) (HF.out)).mono ?_); rintro e w5 ⟨rfl, hI, hB, hK⟩; refine ⟨_, rfl, ?_⟩; have HS1 := Aside0.mk ((SV.lift HS.out).call hI hB hK); clear HS hI hB hK; (try clear hc_g_0 hc_g_1 hc_g_2 hf_g_0 hf_g_1 hf_g_2 hc_4_0 hc_4_1 hc_4_2 hc_4_3 hf_4_0 hf_4_1 hf_4_2 hf_4_3 hn_4 hn_4'); have HS := HS1; clear HS1; obtain ⟨hc_g_0, hc_g_1, hc_g_2, hf_g_0, hf_g_1, hf_g_2⟩ := c3 HS.out.rd.1; obtain ⟨hc_4_0, hc_4_1, hc_4_2, hc_4_3, hf_4_0, hf_4_1, hf_4_2, hf_4_3⟩ := c4 HS.out.b4; have hn_4 := HS.out.ne; have hn_4' := hn_4.symm) | ((with_reducible refine gate_callee (f := 58) rfl ?_); refine goesL_ (some 28) rfl rfl Tryd.func58 (by kernel_rfl) rfl #[.pointer (some ⟨g, 0, none⟩)] rfl (by (try simp only [List.map_toArray, List.map_cons, List.map_nil]); first | done | rfl) ?_; (with_reducible refine (codec_reader_count.calls 20 g s ((i + 1 : Nat)) false _ _ _ _ w0 _ (by exact (SV.lift HS.out).rd) (by exact (SV.lift HS.out).below) (HC.out)).mono ?_); rintro e w6 ⟨rfl, hI, hB, hK⟩; refine ⟨_, rfl, ?_⟩; have HS1 := Aside0.mk ((SV.lift HS.out).call hI hB hK); clear HS hI hB hK; (try clear hc_g_0 hc_g_1 hc_g_2 hf_g_0 hf_g_1 hf_g_2 hc_4_0 hc_4_1 hc_4_2 hc_4_3 hf_4_0 hf_4_1 hf_4_2 hf_4_3 hn_4 hn_4'); have HS := HS1; clear HS1; obtain ⟨hc_g_0, hc_g_1, hc_g_2, hf_g_0, hf_g_1, hf_g_2⟩ := c3 HS.out.rd.1; obtain ⟨hc_4_0, hc_4_1, hc_4_2, hc_4_3, hf_4_0, hf_4_1, hf_4_2, hf_4_3⟩ := c4 HS.out.b4; have hn_4 := HS.out.ne; have hn_4' := hn_4.symm))
  repeat (go_quiet (fail); try go_wp2)
  have hwm : IntKind.i64.wrap (m : Int) = (m : Int) := wrap_i64 (by omega) (by omega)
  have hwj : IntKind.i64.wrap (j : Int) = (j : Int) := wrap_i64 (by omega) (by omega)
  obtain ⟨XF, hXF⟩ : ∃ XF : Nat → Option Value, XF = fun k => (([some (.pointer (some ⟨g, 0, none⟩)), some (.pointer (some ⟨g, 0, none⟩)), some (.pointer (some ⟨g, 0, none⟩)), some (.string s), some (.pointer (some ⟨g, 0, none⟩)), some (.pointer (some ⟨g, 0, none⟩)), some (.pointer (some ⟨g, 1, none⟩)), some (.int .i64 ((j : Int) + (m : Int))), some (.int .u64 (m : Int)), some (.int .i64 (m : Int)), some (.int .i64 (j : Int)), some (.pointer (some ⟨g, 0, none⟩)), some (.pointer (some ⟨g, 0, none⟩)), some (.pointer (some ⟨g, 1, none⟩)), some (.int .i64 ((j : Int) + (m : Int))), some (.string (s.extract j (j + m))), none, none] : List (Option Value))[k]?).join := ⟨_, rfl⟩
  have X0 : XF 0 = some (.pointer (some ⟨g, 0, none⟩)) := by rw [hXF]; rfl
  have X1 : XF 1 = some (.pointer (some ⟨g, 0, none⟩)) := by rw [hXF]; rfl
  have X2 : XF 2 = some (.pointer (some ⟨g, 0, none⟩)) := by rw [hXF]; rfl
  have X3 : XF 3 = some (.string s) := by rw [hXF]; rfl
  have X4 : XF 4 = some (.pointer (some ⟨g, 0, none⟩)) := by rw [hXF]; rfl
  have X5 : XF 5 = some (.pointer (some ⟨g, 0, none⟩)) := by rw [hXF]; rfl
  have X6 : XF 6 = some (.pointer (some ⟨g, 1, none⟩)) := by rw [hXF]; rfl
  have X7 : XF 7 = some (.int .i64 ((j : Int) + (m : Int))) := by rw [hXF]; rfl
  have X8 : XF 8 = some (.int .u64 (m : Int)) := by rw [hXF]; rfl
  have X9 : XF 9 = some (.int .i64 (m : Int)) := by rw [hXF]; rfl
  have X10 : XF 10 = some (.int .i64 (j : Int)) := by rw [hXF]; rfl
  have X11 : XF 11 = some (.pointer (some ⟨g, 0, none⟩)) := by rw [hXF]; rfl
  have X12 : XF 12 = some (.pointer (some ⟨g, 0, none⟩)) := by rw [hXF]; rfl
  have X13 : XF 13 = some (.pointer (some ⟨g, 1, none⟩)) := by rw [hXF]; rfl
  have X14 : XF 14 = some (.int .i64 ((j : Int) + (m : Int))) := by rw [hXF]; rfl
  have X15 : XF 15 = some (.string (s.extract j (j + m))) := by rw [hXF]; rfl
  have X16 : XF 16 = none := by rw [hXF]; rfl
  have X17 : XF 17 = none := by rw [hXF]; rfl
  clear hXF
  refine wp_region_noPanic ?_
  refine DR.wp_region_inv [some 61, some 62, some 63, some 64, some 65, some 66, some 67, some 68, some 69, some 70, some 71, some 72, some 73, some 74, some 75, some 76, some 77, none] (JC XF [16, 17] [] (fun n vals W => P11 w0 w g g4 s ((j : Int) + (m : Int)) (s.extract j (j + m)) n (vals 16) W)) (by kernel_rfl) (by kernel_rfl) (by kernel_rfl) (by kernel_rfl) (fun vals => JC.init (SV.lift (SV.set_1 (SV.lift (W' := w6.drewN nq) HS.out) _))) ?step ?fin
  case step =>
    intro jx o_ ls vals a0_ w13 ho hj hpre hS hJ
    have hjlt : jx < 18 := (Array.getElem?_eq_some_iff.1 ho).1
    obtain rfl | rfl | rfl | rfl | rfl | rfl | rfl | rfl | rfl | rfl | rfl | rfl | rfl | rfl | rfl | rfl | rfl | rfl : jx = 0 ∨ jx = 1 ∨ jx = 2 ∨ jx = 3 ∨ jx = 4 ∨ jx = 5 ∨ jx = 6 ∨ jx = 7 ∨ jx = 8 ∨ jx = 9 ∨ jx = 10 ∨ jx = 11 ∨ jx = 12 ∨ jx = 13 ∨ jx = 14 ∨ jx = 15 ∨ jx = 16 ∨ jx = 17 := by clear hpre; omega
    · cases ho
      have e0 : a0_.tmps[0]?.getD undef = .pointer (some ⟨g, 0, none⟩) := (DR.eval_get a0_ _).trans (hS.out' rfl rfl)
      refine DR.wpOp_run (v := .pointer (some ⟨g, 0, none⟩)) (w' := w13) rfl rfl ?_ ⟨_, rfl, hJ.value X0 (by decide) (by simp []) (fun _ h => h)⟩
      clear hS hJ hpre
      first | (go_simp; done) | (go_simp; rfl)
    · cases ho
      have p0 : ls 0 = true := hpre { on := 0, ground := Ground.data } (by simp) rfl
      have e61 : a0_.tmps[61]?.getD undef = .pointer (some ⟨g, 0, none⟩) := (DR.eval_get a0_ _).trans ((hS.on 0 61 rfl p0).trans (hJ.val 0 _ X0 p0))
      refine DR.wpOp_run (v := .pointer (some ⟨g, 0, none⟩)) (w' := w13) rfl rfl ?_ ⟨_, rfl, hJ.value X1 (by decide) (by simp [p0]) (fun _ h => h)⟩
      clear hS hJ hpre
      first | (go_simp; done) | (go_simp; rfl)
    · cases ho
      have p1 : ls 1 = true := hpre { on := 1, ground := Ground.data } (by simp) rfl
      have e62 : a0_.tmps[62]?.getD undef = .pointer (some ⟨g, 0, none⟩) := (DR.eval_get a0_ _).trans ((hS.on 1 62 rfl p1).trans (hJ.val 1 _ X1 p1))
      refine DR.wpOp_run (v := .pointer (some ⟨g, 0, none⟩)) (w' := w13) rfl rfl ?_ ⟨_, rfl, hJ.value X2 (by decide) (by simp [p1]) (fun _ h => h)⟩
      clear hS hJ hpre
      first | (go_simp; done) | (go_simp; rfl)
    · cases ho
      have p2 : ls 2 = true := hpre { on := 2, ground := Ground.data } (by simp) rfl
      have e63 : a0_.tmps[63]?.getD undef = .pointer (some ⟨g, 0, none⟩) := (DR.eval_get a0_ _).trans ((hS.on 2 63 rfl p2).trans (hJ.val 2 _ X2 p2))
      obtain ⟨nx, _, _, hph⟩ := hJ.ph
      have hrd := (P11.rd hph).1
      have hc0 := cellS69_0 hrd; have hc1 := cellS69_1 hrd
      refine DR.wpOp_run (v := .string s) (w' := w13) rfl rfl ?_ ⟨_, rfl, hJ.value X3 (by decide) (by simp [p2]) (fun _ h => h)⟩
      clear hS hJ hpre
      first | (go_simp; done) | (go_simp; rfl)
    · cases ho
      have e0 : a0_.tmps[0]?.getD undef = .pointer (some ⟨g, 0, none⟩) := (DR.eval_get a0_ _).trans (hS.out' rfl rfl)
      refine DR.wpOp_run (v := .pointer (some ⟨g, 0, none⟩)) (w' := w13) rfl rfl ?_ ⟨_, rfl, hJ.value X4 (by decide) (by simp []) (fun _ h => h)⟩
      clear hS hJ hpre
      first | (go_simp; done) | (go_simp; rfl)
    · cases ho
      have p4 : ls 4 = true := hpre { on := 4, ground := Ground.data } (by simp) rfl
      have e65 : a0_.tmps[65]?.getD undef = .pointer (some ⟨g, 0, none⟩) := (DR.eval_get a0_ _).trans ((hS.on 4 65 rfl p4).trans (hJ.val 4 _ X4 p4))
      refine DR.wpOp_run (v := .pointer (some ⟨g, 0, none⟩)) (w' := w13) rfl rfl ?_ ⟨_, rfl, hJ.value X5 (by decide) (by simp [p4]) (fun _ h => h)⟩
      clear hS hJ hpre
      first | (go_simp; done) | (go_simp; rfl)
    · cases ho
      have p5 : ls 5 = true := hpre { on := 5, ground := Ground.data } (by simp) rfl
      have e66 : a0_.tmps[66]?.getD undef = .pointer (some ⟨g, 0, none⟩) := (DR.eval_get a0_ _).trans ((hS.on 5 66 rfl p5).trans (hJ.val 5 _ X5 p5))
      refine DR.wpOp_run (v := .pointer (some ⟨g, 1, none⟩)) (w' := w13) rfl rfl ?_ ⟨_, rfl, hJ.value X6 (by decide) (by simp [p5]) (fun _ h => h)⟩
      clear hS hJ hpre
      first | (go_simp; done) | (go_simp; rfl)
    · cases ho
      have p6 : ls 6 = true := hpre { on := 6, ground := Ground.data } (by simp) rfl
      have e67 : a0_.tmps[67]?.getD undef = .pointer (some ⟨g, 1, none⟩) := (DR.eval_get a0_ _).trans ((hS.on 6 67 rfl p6).trans (hJ.val 6 _ X6 p6))
      obtain ⟨nx, _, _, hph⟩ := hJ.ph
      have hrd := (P11.rd hph).1
      have hc0 := cellS69_0 hrd; have hc1 := cellS69_1 hrd
      refine DR.wpOp_run (v := .int .i64 ((j : Int) + (m : Int))) (w' := w13) rfl rfl ?_ ⟨_, rfl, hJ.value X7 (by decide) (by simp [p6]) (fun _ h => h)⟩
      clear hS hJ hpre
      first | (go_simp; done) | (go_simp; rfl)
    · cases ho
      have e6 : a0_.tmps[6]?.getD undef = .int .u64 (m : Int) := (DR.eval_get a0_ _).trans (hS.out' rfl rfl)
      refine DR.wpOp_run (v := .int .u64 (m : Int)) (w' := w13) rfl rfl ?_ ⟨_, rfl, hJ.value X8 (by decide) (by simp []) (fun _ h => h)⟩
      clear hS hJ hpre
      first | (go_simp; done) | (go_simp; rfl)
    · cases ho
      have p8 : ls 8 = true := hpre { on := 8, ground := Ground.data } (by simp) rfl
      have e69 : a0_.tmps[69]?.getD undef = .int .u64 (m : Int) := (DR.eval_get a0_ _).trans ((hS.on 8 69 rfl p8).trans (hJ.val 8 _ X8 p8))
      refine DR.wpOp_run (v := .int .i64 (m : Int)) (w' := w13) rfl rfl ?_ ⟨_, rfl, hJ.value X9 (by decide) (by simp [p8]) (fun _ h => h)⟩
      clear hS hJ hpre
      first | (go_simp; done) | (go_simp; rfl)
    · cases ho
      have p7 : ls 7 = true := hpre { on := 7, ground := Ground.data } (by simp) rfl
      have e68 : a0_.tmps[68]?.getD undef = .int .i64 ((j : Int) + (m : Int)) := (DR.eval_get a0_ _).trans ((hS.on 7 68 rfl p7).trans (hJ.val 7 _ X7 p7))
      have p9 : ls 9 = true := hpre { on := 9, ground := Ground.data } (by simp) rfl
      have e70 : a0_.tmps[70]?.getD undef = .int .i64 (m : Int) := (DR.eval_get a0_ _).trans ((hS.on 9 70 rfl p9).trans (hJ.val 9 _ X9 p9))
      have hs1 : (j : Int) + (m : Int) - (m : Int) = (j : Int) := by omega
      refine DR.wpOp_run (v := .int .i64 (j : Int)) (w' := w13) rfl rfl ?_ ⟨_, rfl, hJ.value X10 (by decide) (by simp [p7, p9]) (fun _ h => h)⟩
      clear hS hJ hpre
      first | (go_simp; done) | (go_simp; rfl)
    · cases ho
      have e0 : a0_.tmps[0]?.getD undef = .pointer (some ⟨g, 0, none⟩) := (DR.eval_get a0_ _).trans (hS.out' rfl rfl)
      refine DR.wpOp_run (v := .pointer (some ⟨g, 0, none⟩)) (w' := w13) rfl rfl ?_ ⟨_, rfl, hJ.value X11 (by decide) (by simp []) (fun _ h => h)⟩
      clear hS hJ hpre
      first | (go_simp; done) | (go_simp; rfl)
    · cases ho
      have p11 : ls 11 = true := hpre { on := 11, ground := Ground.data } (by simp) rfl
      have e72 : a0_.tmps[72]?.getD undef = .pointer (some ⟨g, 0, none⟩) := (DR.eval_get a0_ _).trans ((hS.on 11 72 rfl p11).trans (hJ.val 11 _ X11 p11))
      refine DR.wpOp_run (v := .pointer (some ⟨g, 0, none⟩)) (w' := w13) rfl rfl ?_ ⟨_, rfl, hJ.value X12 (by decide) (by simp [p11]) (fun _ h => h)⟩
      clear hS hJ hpre
      first | (go_simp; done) | (go_simp; rfl)
    · cases ho
      have p12 : ls 12 = true := hpre { on := 12, ground := Ground.data } (by simp) rfl
      have e73 : a0_.tmps[73]?.getD undef = .pointer (some ⟨g, 0, none⟩) := (DR.eval_get a0_ _).trans ((hS.on 12 73 rfl p12).trans (hJ.val 12 _ X12 p12))
      refine DR.wpOp_run (v := .pointer (some ⟨g, 1, none⟩)) (w' := w13) rfl rfl ?_ ⟨_, rfl, hJ.value X13 (by decide) (by simp [p12]) (fun _ h => h)⟩
      clear hS hJ hpre
      first | (go_simp; done) | (go_simp; rfl)
    · cases ho
      have p13 : ls 13 = true := hpre { on := 13, ground := Ground.data } (by simp) rfl
      have e74 : a0_.tmps[74]?.getD undef = .pointer (some ⟨g, 1, none⟩) := (DR.eval_get a0_ _).trans ((hS.on 13 74 rfl p13).trans (hJ.val 13 _ X13 p13))
      obtain ⟨nx, _, _, hph⟩ := hJ.ph
      have hrd := (P11.rd hph).1
      have hc0 := cellS69_0 hrd; have hc1 := cellS69_1 hrd
      refine DR.wpOp_run (v := .int .i64 ((j : Int) + (m : Int))) (w' := w13) rfl rfl ?_ ⟨_, rfl, hJ.value X14 (by decide) (by simp [p13]) (fun _ h => h)⟩
      clear hS hJ hpre
      first | (go_simp; done) | (go_simp; rfl)
    · cases ho
      have p3 : ls 3 = true := hpre { on := 3, ground := Ground.data } (by simp) rfl
      have e64 : a0_.tmps[64]?.getD undef = .string s := (DR.eval_get a0_ _).trans ((hS.on 3 64 rfl p3).trans (hJ.val 3 _ X3 p3))
      have p10 : ls 10 = true := hpre { on := 10, ground := Ground.data } (by simp) rfl
      have e71 : a0_.tmps[71]?.getD undef = .int .i64 (j : Int) := (DR.eval_get a0_ _).trans ((hS.on 10 71 rfl p10).trans (hJ.val 10 _ X10 p10))
      have p14 : ls 14 = true := hpre { on := 14, ground := Ground.data } (by simp) rfl
      have e75 : a0_.tmps[75]?.getD undef = .int .i64 ((j : Int) + (m : Int)) := (DR.eval_get a0_ _).trans ((hS.on 14 75 rfl p14).trans (hJ.val 14 _ X14 p14))
      have hsl := run_slice_string (P := Tryd.prog) (w := w13) 9 s .i64 .i64 (j : Int) ((j : Int) + (m : Int)) Tryd.underlying9 (by omega) (by omega) (by omega)
      rw [Int.toNat_natCast, show ((j : Int) + (m : Int)).toNat = j + m by omega] at hsl
      refine DR.wpOp_run (v := .string (s.extract j (j + m))) (w' := w13) rfl rfl ?_ ⟨_, rfl, hJ.value X15 (by decide) (by simp [p3, p10, p14]) (fun _ h => h)⟩
      clear hS hJ hpre
      first | (go_simp; done) | (go_simp; rfl)
    · cases ho
      have p15 : ls 15 = true := hpre { on := 15, ground := Ground.data } (by simp) rfl
      have e76 : a0_.tmps[76]?.getD undef = .string (s.extract j (j + m)) := (DR.eval_get a0_ _).trans ((hS.on 15 76 rfl p15).trans (hJ.val 15 _ X15 p15))
      have E76 := (DR.eval_get a0_ 76).symm.trans e76
      have hP0 := hJ.at_ (i := 16) (n := 0) rfl hj (.inl rfl)
      refine DR.wpOp_call rfl rfl Tryd.func30 (by kernel_rfl) rfl #[.string (s.extract j (j + m))] rfl (by simp only [List.map_toArray, List.map_cons, List.map_nil, E76]) ?_
      refine (codec_Str.calls (s.extract j (j + m)) _ _ _ _ w13 rfl).mono ?_
      rintro e wc ⟨v3, rfl, hv, hb⟩
      exact ⟨_, rfl, _, rfl, hJ.event (i := 16) (n := 0) rfl (by decide) X16 hj (.inl rfl) (by simp) ⟨v3, rfl, SV.own hP0 hv, SV.step hP0 hb⟩⟩
    · cases ho
      have p16 : ls 16 = true := hpre { on := 16, ground := Ground.data } (by simp) rfl
      obtain ⟨v3, hu, hv, hP0⟩ := hJ.at_ (i := 17) (n := 1) rfl hj (.inr ⟨16, rfl, p16⟩)
      obtain ⟨A3, c3, rfl⟩ := Kd.R_slice hv
      have e77 : a0_.tmps[77]?.getD undef = .agg #[.int .i64 2, .int .i64 0, .string (s.extract j (j + m)), .slice A3 ([] : List S32).length c3] := (DR.eval_get a0_ _).trans ((hS.on 16 77 rfl p16).trans hu)
      have e4 : a0_.tmps[4]?.getD undef = .pointer (some ⟨g4, 0, none⟩) := (DR.eval_get a0_ _).trans (hS.out' rfl rfl)
      have hc4 : ∀ k u, (#[.int .i64 0, .int .i64 0, .string (⟨#[]⟩ : ByteArray), .slice none 0 0] : Array Value)[k]? = some u → w13.cell? ⟨g4, k, none⟩ = some u := fun k u hk => (blk_cell hP0.b4 k).trans hk
      have hc4_0 := hc4 0 _ rfl; have hc4_1 := hc4 1 _ rfl; have hc4_2 := hc4 2 _ rfl; have hc4_3 := hc4 3 _ rfl; have hf4_0 := blk_frozen hP0.b4 0; have hf4_1 := blk_frozen hP0.b4 1; have hf4_2 := blk_frozen hP0.b4 2; have hf4_3 := blk_frozen hP0.b4 3
      refine DR.wpOp_skip (w' := ((((w13.setCell ⟨g4, 0, none⟩ (.int .i64 2)).setCell ⟨g4, 1, none⟩ (.int .i64 0)).setCell ⟨g4, 2, none⟩ (.string (s.extract j (j + m)))).setCell ⟨g4, 3, none⟩ (.slice A3 ([] : List S32).length c3))) rfl rfl ?_ ⟨_, rfl, hJ.event (i := 17) (n := 1) rfl (by decide) X17 hj (.inr ⟨16, rfl, p16⟩) (by simp) ⟨_, R_far4 hv (fun k hk => hk.2) _ _ _ _, SV.store4 hP0 _ _ _ _⟩⟩
      clear hS hJ hpre hu
      first | (go_simp; done) | (go_simp; rfl)
  case fin =>
    intro vals w13 hJ
    have v0 := hJ.val 0 _ X0 rfl
    have v1 := hJ.val 1 _ X1 rfl
    have v2 := hJ.val 2 _ X2 rfl
    have v3 := hJ.val 3 _ X3 rfl
    have v4 := hJ.val 4 _ X4 rfl
    have v5 := hJ.val 5 _ X5 rfl
    have v6 := hJ.val 6 _ X6 rfl
    have v7 := hJ.val 7 _ X7 rfl
    have v8 := hJ.val 8 _ X8 rfl
    have v9 := hJ.val 9 _ X9 rfl
    have v10 := hJ.val 10 _ X10 rfl
    have v11 := hJ.val 11 _ X11 rfl
    have v12 := hJ.val 12 _ X12 rfl
    have v13 := hJ.val 13 _ X13 rfl
    have v14 := hJ.val 14 _ X14 rfl
    have v15 := hJ.val 15 _ X15 rfl
    have hP := hJ.fin (by decide)
    clear hJ X0 X1 X2 X3 X4 X5 X6 X7 X8 X9 X10 X11 X12 X13 X14 X15 X16 X17
    obtain ⟨v16, hv16⟩ : ∃ v, v = vals 16 := ⟨_, rfl⟩
    refine NoPanic.normal ?_
    simp only [DR.putAll, v0, v1, v2, v3, v4, v5, v6, v7, v8, v9, v10, v11, v12, v13, v14, v15, ← hv16]
    simp only [Act.put, List.setIfInBounds_toArray, List.set_cons_zero, List.set_cons_succ]
    obtain ⟨v3, hv, hP⟩ := hP
    go_wp2
    refine bodyPost_ret (results_cell_row rfl _ _ g4 32 #[.int .i64 2, .int .i64 0, .string (s.extract j (j + m)), v3] (0, 0) _ rfl (hP.b4) Tryd.underlying32 rfl (by kernel_rfl)) rfl ?_
    exact rdq_some ⟨2, 0, s.extract j (j + m), []⟩ _ (j := j + m) hP (Kd.R_mono hv (fun _ hk => hk.1)) H2.out hjm
set_option maxHeartbeats 8000000 in
set_option maxRecDepth 100000 in
theorem valL0 (s : ByteArray) (i g : Nat) (w0 w : World) (hI : IsS69 w0 w g s (i : Int) false) (hB : Below w0.heap.size w0 w) (h : i < s.size) (hs : s.size ≤ 1000000) (m j : Nat) (bad : Bool) (hm : m < 18446744073709551616) (hc : codec_reader_count.f 20 s ((i + 1 : Nat) : Int) false = some ((m : Int), s, (j : Int), bad)) (hb : byteAt s i = 108) (o : Option (S32 × Nat)) (hj : j ≤ s.size) (n : Int) (h1 : bad = true ∨ 16 ≤ n ∨ ¬ m ≤ s.size - j) (h2 : o = none) : Calls Tryd.prog 38 #[.pointer (some ⟨g, 0, none⟩), .int .i64 n] w (RdQ s o w0 w g) := by
  cases bad with
  | true =>
    have HI := Aside0.mk hI
    have HB := Aside0.mk hB
    have HF := Aside0.mk (byteF s i h hs)
    rw [hb] at HF
    have HC := Aside0.mk hc
    have H1 := Aside0.mk h1
    have H2 := Aside0.mk h2
    clear hI hB hc h1 h2
    go_enter Tryd.func38, Tryd.ntmps38
    go_wp2_with (first | ((with_reducible refine gate_dst (N := 4) rfl ?_); refine box_event ?hg (N := 4) ?hd (cs := #[.int .i64 0, .int .i64 0, .string (⟨#[]⟩ : ByteArray), .slice none 0 0]) (t := 32) ?hr ?_; (case hd => rfl); (case hg => rfl); (case hr => first | (go_simp; done) | (go_simp; rfl)); intro g4 hg w4 hbox hb; have HS := Aside0.mk (SV.new (cs := #[.int .i64 0, .int .i64 0, .string (⟨#[]⟩ : ByteArray), .slice none 0 0]) HI.out HB.out hg (blL (Below.refl _ _)) hb hbox); clear hb hbox hg; obtain ⟨hc_g_0, hc_g_1, hc_g_2, hf_g_0, hf_g_1, hf_g_2⟩ := c3 HS.out.rd.1; obtain ⟨hc_4_0, hc_4_1, hc_4_2, hc_4_3, hf_4_0, hf_4_1, hf_4_2, hf_4_3⟩ := c4 HS.out.b4; have hn_4 := HS.out.ne; have hn_4' := hn_4.symm) | ((with_reducible refine gate_callee (f := 57) rfl ?_); refine goesL_ (some 11) rfl rfl Tryd.func57 (by kernel_rfl) rfl #[.pointer (some ⟨g, 0, none⟩)] rfl (by (try simp only [List.map_toArray, List.map_cons, List.map_nil]); first | done | rfl) ?_; (with_reducible refine (codec_reader_byte.calls g s (i : Int) false _ _ _ _ w0 _ (by exact (SV.lift HS.out).rd) (by exact (SV.lift HS.out).below) (HF.out)).mono ?_); rintro e w5 ⟨rfl, hI, hB, hK⟩; refine ⟨_, rfl, ?_⟩; have HS1 := Aside0.mk ((SV.lift HS.out).call hI hB hK); clear HS hI hB hK; (try clear hc_g_0 hc_g_1 hc_g_2 hf_g_0 hf_g_1 hf_g_2 hc_4_0 hc_4_1 hc_4_2 hc_4_3 hf_4_0 hf_4_1 hf_4_2 hf_4_3 hn_4 hn_4'); have HS := HS1; clear HS1; obtain ⟨hc_g_0, hc_g_1, hc_g_2, hf_g_0, hf_g_1, hf_g_2⟩ := c3 HS.out.rd.1; obtain ⟨hc_4_0, hc_4_1, hc_4_2, hc_4_3, hf_4_0, hf_4_1, hf_4_2, hf_4_3⟩ := c4 HS.out.b4; have hn_4 := HS.out.ne; have hn_4' := hn_4.symm) | ((with_reducible refine gate_callee (f := 58) rfl ?_); refine goesL_ (some 81) rfl rfl Tryd.func58 (by kernel_rfl) rfl #[.pointer (some ⟨g, 0, none⟩)] rfl (by (try simp only [List.map_toArray, List.map_cons, List.map_nil]); first | done | rfl) ?_; (with_reducible refine (codec_reader_count.calls 20 g s ((i + 1 : Nat)) false _ _ _ _ w0 _ (by exact (SV.lift HS.out).rd) (by exact (SV.lift HS.out).below) (HC.out)).mono ?_); rintro e w6 ⟨rfl, hI, hB, hK⟩; refine ⟨_, rfl, ?_⟩; have HS1 := Aside0.mk ((SV.lift HS.out).call hI hB hK); clear HS hI hB hK; (try clear hc_g_0 hc_g_1 hc_g_2 hf_g_0 hf_g_1 hf_g_2 hc_4_0 hc_4_1 hc_4_2 hc_4_3 hf_4_0 hf_4_1 hf_4_2 hf_4_3 hn_4 hn_4'); have HS := HS1; clear HS1; obtain ⟨hc_g_0, hc_g_1, hc_g_2, hf_g_0, hf_g_1, hf_g_2⟩ := c3 HS.out.rd.1; obtain ⟨hc_4_0, hc_4_1, hc_4_2, hc_4_3, hf_4_0, hf_4_1, hf_4_2, hf_4_3⟩ := c4 HS.out.b4; have hn_4 := HS.out.ne; have hn_4' := hn_4.symm))
    repeat (go_quiet (fail); try go_wp2)
    refine bodyPost_ret (results_cell_row rfl _ _ g4 32 #[.int .i64 0, .int .i64 0, .string (⟨#[]⟩ : ByteArray), .slice none 0 0] (0, 0) _ rfl ((SV.store4 (SV.set_2 (SV.lift HS.out) true) (.int .i64 0) (.int .i64 0) (.string (⟨#[]⟩ : ByteArray)) (.slice none 0 0)).b4) Tryd.underlying32 rfl (by kernel_rfl)) rfl ?_
    exact deadR ⟨SV.lift HS.out⟩ H2.out
  | false =>
    by_cases h16 : 16 ≤ n
    · have hg1 : decide (16 ≤ n) = true := decide_eq_true h16
      have HI := Aside0.mk hI
      have HB := Aside0.mk hB
      have HF := Aside0.mk (byteF s i h hs)
      rw [hb] at HF
      have HC := Aside0.mk hc
      have H1 := Aside0.mk h1
      have H2 := Aside0.mk h2
      clear hI hB hc h1 h2
      go_enter Tryd.func38, Tryd.ntmps38
      go_wp2_with (first | ((with_reducible refine gate_dst (N := 4) rfl ?_); refine box_event ?hg (N := 4) ?hd (cs := #[.int .i64 0, .int .i64 0, .string (⟨#[]⟩ : ByteArray), .slice none 0 0]) (t := 32) ?hr ?_; (case hd => rfl); (case hg => rfl); (case hr => first | (go_simp; done) | (go_simp; rfl)); intro g4 hg w4 hbox hb; have HS := Aside0.mk (SV.new (cs := #[.int .i64 0, .int .i64 0, .string (⟨#[]⟩ : ByteArray), .slice none 0 0]) HI.out HB.out hg (blL (Below.refl _ _)) hb hbox); clear hb hbox hg; obtain ⟨hc_g_0, hc_g_1, hc_g_2, hf_g_0, hf_g_1, hf_g_2⟩ := c3 HS.out.rd.1; obtain ⟨hc_4_0, hc_4_1, hc_4_2, hc_4_3, hf_4_0, hf_4_1, hf_4_2, hf_4_3⟩ := c4 HS.out.b4; have hn_4 := HS.out.ne; have hn_4' := hn_4.symm) | ((with_reducible refine gate_callee (f := 57) rfl ?_); refine goesL_ (some 11) rfl rfl Tryd.func57 (by kernel_rfl) rfl #[.pointer (some ⟨g, 0, none⟩)] rfl (by (try simp only [List.map_toArray, List.map_cons, List.map_nil]); first | done | rfl) ?_; (with_reducible refine (codec_reader_byte.calls g s (i : Int) false _ _ _ _ w0 _ (by exact (SV.lift HS.out).rd) (by exact (SV.lift HS.out).below) (HF.out)).mono ?_); rintro e w5 ⟨rfl, hI, hB, hK⟩; refine ⟨_, rfl, ?_⟩; have HS1 := Aside0.mk ((SV.lift HS.out).call hI hB hK); clear HS hI hB hK; (try clear hc_g_0 hc_g_1 hc_g_2 hf_g_0 hf_g_1 hf_g_2 hc_4_0 hc_4_1 hc_4_2 hc_4_3 hf_4_0 hf_4_1 hf_4_2 hf_4_3 hn_4 hn_4'); have HS := HS1; clear HS1; obtain ⟨hc_g_0, hc_g_1, hc_g_2, hf_g_0, hf_g_1, hf_g_2⟩ := c3 HS.out.rd.1; obtain ⟨hc_4_0, hc_4_1, hc_4_2, hc_4_3, hf_4_0, hf_4_1, hf_4_2, hf_4_3⟩ := c4 HS.out.b4; have hn_4 := HS.out.ne; have hn_4' := hn_4.symm) | ((with_reducible refine gate_callee (f := 58) rfl ?_); refine goesL_ (some 81) rfl rfl Tryd.func58 (by kernel_rfl) rfl #[.pointer (some ⟨g, 0, none⟩)] rfl (by (try simp only [List.map_toArray, List.map_cons, List.map_nil]); first | done | rfl) ?_; (with_reducible refine (codec_reader_count.calls 20 g s ((i + 1 : Nat)) false _ _ _ _ w0 _ (by exact (SV.lift HS.out).rd) (by exact (SV.lift HS.out).below) (HC.out)).mono ?_); rintro e w6 ⟨rfl, hI, hB, hK⟩; refine ⟨_, rfl, ?_⟩; have HS1 := Aside0.mk ((SV.lift HS.out).call hI hB hK); clear HS hI hB hK; (try clear hc_g_0 hc_g_1 hc_g_2 hf_g_0 hf_g_1 hf_g_2 hc_4_0 hc_4_1 hc_4_2 hc_4_3 hf_4_0 hf_4_1 hf_4_2 hf_4_3 hn_4 hn_4'); have HS := HS1; clear HS1; obtain ⟨hc_g_0, hc_g_1, hc_g_2, hf_g_0, hf_g_1, hf_g_2⟩ := c3 HS.out.rd.1; obtain ⟨hc_4_0, hc_4_1, hc_4_2, hc_4_3, hf_4_0, hf_4_1, hf_4_2, hf_4_3⟩ := c4 HS.out.b4; have hn_4 := HS.out.ne; have hn_4' := hn_4.symm))
      repeat (go_quiet (fail); try go_wp2)
      refine bodyPost_ret (results_cell_row rfl _ _ g4 32 #[.int .i64 0, .int .i64 0, .string (⟨#[]⟩ : ByteArray), .slice none 0 0] (0, 0) _ rfl ((SV.store4 (SV.set_2 (SV.lift HS.out) true) (.int .i64 0) (.int .i64 0) (.string (⟨#[]⟩ : ByteArray)) (.slice none 0 0)).b4) Tryd.underlying32 rfl (by kernel_rfl)) rfl ?_
      exact deadR ⟨SV.lift HS.out⟩ H2.out
    · have hg1 : decide (16 ≤ n) = false := decide_eq_false h16
      have hd1 : decide ((s.size : Int) - (j : Int) < (m : Int)) = true := decide_eq_true (by simp at h1; omega)
      have hd2 : ¬ ((m : Int) ≤ (s.size : Int) - (j : Int)) := by simp at h1; omega
      have HI := Aside0.mk hI
      have HB := Aside0.mk hB
      have HF := Aside0.mk (byteF s i h hs)
      rw [hb] at HF
      have HC := Aside0.mk hc
      have H1 := Aside0.mk h1
      have H2 := Aside0.mk h2
      clear hI hB hc h1 h2
      go_enter Tryd.func38, Tryd.ntmps38
      go_wp2_with (first | ((with_reducible refine gate_dst (N := 4) rfl ?_); refine box_event ?hg (N := 4) ?hd (cs := #[.int .i64 0, .int .i64 0, .string (⟨#[]⟩ : ByteArray), .slice none 0 0]) (t := 32) ?hr ?_; (case hd => rfl); (case hg => rfl); (case hr => first | (go_simp; done) | (go_simp; rfl)); intro g4 hg w4 hbox hb; have HS := Aside0.mk (SV.new (cs := #[.int .i64 0, .int .i64 0, .string (⟨#[]⟩ : ByteArray), .slice none 0 0]) HI.out HB.out hg (blL (Below.refl _ _)) hb hbox); clear hb hbox hg; obtain ⟨hc_g_0, hc_g_1, hc_g_2, hf_g_0, hf_g_1, hf_g_2⟩ := c3 HS.out.rd.1; obtain ⟨hc_4_0, hc_4_1, hc_4_2, hc_4_3, hf_4_0, hf_4_1, hf_4_2, hf_4_3⟩ := c4 HS.out.b4; have hn_4 := HS.out.ne; have hn_4' := hn_4.symm) | ((with_reducible refine gate_callee (f := 57) rfl ?_); refine goesL_ (some 11) rfl rfl Tryd.func57 (by kernel_rfl) rfl #[.pointer (some ⟨g, 0, none⟩)] rfl (by (try simp only [List.map_toArray, List.map_cons, List.map_nil]); first | done | rfl) ?_; (with_reducible refine (codec_reader_byte.calls g s (i : Int) false _ _ _ _ w0 _ (by exact (SV.lift HS.out).rd) (by exact (SV.lift HS.out).below) (HF.out)).mono ?_); rintro e w5 ⟨rfl, hI, hB, hK⟩; refine ⟨_, rfl, ?_⟩; have HS1 := Aside0.mk ((SV.lift HS.out).call hI hB hK); clear HS hI hB hK; (try clear hc_g_0 hc_g_1 hc_g_2 hf_g_0 hf_g_1 hf_g_2 hc_4_0 hc_4_1 hc_4_2 hc_4_3 hf_4_0 hf_4_1 hf_4_2 hf_4_3 hn_4 hn_4'); have HS := HS1; clear HS1; obtain ⟨hc_g_0, hc_g_1, hc_g_2, hf_g_0, hf_g_1, hf_g_2⟩ := c3 HS.out.rd.1; obtain ⟨hc_4_0, hc_4_1, hc_4_2, hc_4_3, hf_4_0, hf_4_1, hf_4_2, hf_4_3⟩ := c4 HS.out.b4; have hn_4 := HS.out.ne; have hn_4' := hn_4.symm) | ((with_reducible refine gate_callee (f := 58) rfl ?_); refine goesL_ (some 81) rfl rfl Tryd.func58 (by kernel_rfl) rfl #[.pointer (some ⟨g, 0, none⟩)] rfl (by (try simp only [List.map_toArray, List.map_cons, List.map_nil]); first | done | rfl) ?_; (with_reducible refine (codec_reader_count.calls 20 g s ((i + 1 : Nat)) false _ _ _ _ w0 _ (by exact (SV.lift HS.out).rd) (by exact (SV.lift HS.out).below) (HC.out)).mono ?_); rintro e w6 ⟨rfl, hI, hB, hK⟩; refine ⟨_, rfl, ?_⟩; have HS1 := Aside0.mk ((SV.lift HS.out).call hI hB hK); clear HS hI hB hK; (try clear hc_g_0 hc_g_1 hc_g_2 hf_g_0 hf_g_1 hf_g_2 hc_4_0 hc_4_1 hc_4_2 hc_4_3 hf_4_0 hf_4_1 hf_4_2 hf_4_3 hn_4 hn_4'); have HS := HS1; clear HS1; obtain ⟨hc_g_0, hc_g_1, hc_g_2, hf_g_0, hf_g_1, hf_g_2⟩ := c3 HS.out.rd.1; obtain ⟨hc_4_0, hc_4_1, hc_4_2, hc_4_3, hf_4_0, hf_4_1, hf_4_2, hf_4_3⟩ := c4 HS.out.b4; have hn_4 := HS.out.ne; have hn_4' := hn_4.symm))
      repeat (go_quiet (fail); try go_wp2)
      refine bodyPost_ret (results_cell_row rfl _ _ g4 32 #[.int .i64 0, .int .i64 0, .string (⟨#[]⟩ : ByteArray), .slice none 0 0] (0, 0) _ rfl ((SV.store4 (SV.set_2 (SV.lift HS.out) true) (.int .i64 0) (.int .i64 0) (.string (⟨#[]⟩ : ByteArray)) (.slice none 0 0)).b4) Tryd.underlying32 rfl (by kernel_rfl)) rfl ?_
      exact deadR ⟨SV.lift HS.out⟩ H2.out
def B8 (g8 : Nat) (u : Value) (W : World) : Prop := W.heap[g8]? = some (.cells #[.int .i64 3, .int .i64 0, .string (⟨#[]⟩ : ByteArray), u] 32 (0, 0))
abbrev OKu (w : World) (g4 g8 : Nat) : Nat → Prop := fun k => w.heap.size ≤ k ∧ k ≠ g4 ∧ k ≠ g8
abbrev RU (w0 w W : World) (g4 g8 : Nat) (u : Value) (l : List S32) : Prop := Kd.R k32 32 W w0.heap.size (OKu w g4 g8) u l
abbrev RV (w0 w W : World) (g4 g8 : Nat) (u v : Value) (l : List S32) : Prop := Kd.R k32 32 W w0.heap.size (fun k => OKu w g4 g8 k ∧ some k ≠ u.ownBlock) v l
def P21 (w0 w : World) (g g4 g8 : Nat) (s : ByteArray) (p : Int) (u : Value) (l : List S32) (Q : S32 → Nat → Bool → Prop) : Nat → Value → Value → Value → World → Prop
  | 0, _, _, _, W => SV w0 w W g g4 #[.int .i64 0, .int .i64 0, .string (⟨#[]⟩ : ByteArray), .slice none 0 0] s p false ∧ B8 g8 u W ∧ RU w0 w W g4 g8 u l
  | 1, u5, _, _, W => ∃ (x : S32) (v3 : Value) (jx : Nat) (bx : Bool), Q x jx bx ∧ u5 = .agg #[.int .i64 x.f0, .int .i64 x.f1, .string x.f2, v3] ∧ RV w0 w W g4 g8 u v3 x.f3 ∧ SV w0 w W g g4 #[.int .i64 0, .int .i64 0, .string (⟨#[]⟩ : ByteArray), .slice none 0 0] s (jx : Int) bx ∧ B8 g8 u W ∧ RU w0 w W g4 g8 u l
  | 2, _, u6, _, W => ∃ (x : S32) (v3 : Value) (jx : Nat) (bx : Bool) (gb : Nat), Q x jx bx ∧ u6 = .slice (some ⟨gb, 0, none⟩) 1 1 ∧ W.heap[gb]? = some (.cells #[.int .i64 x.f0, .int .i64 x.f1, .string x.f2, v3] 32 (0, 0)) ∧ RV w0 w W g4 g8 u v3 x.f3 ∧ SV w0 w W g g4 #[.int .i64 0, .int .i64 0, .string (⟨#[]⟩ : ByteArray), .slice none 0 0] s (jx : Int) bx ∧ B8 g8 u W ∧ RU w0 w W g4 g8 u l
  | 3, _, _, u7, W => ∃ (x : S32) (jx : Nat) (bx : Bool), Q x jx bx ∧ SV w0 w W g g4 #[.int .i64 0, .int .i64 0, .string (⟨#[]⟩ : ByteArray), .slice none 0 0] s (jx : Int) bx ∧ B8 g8 u W ∧ RU w0 w W g4 g8 u7 (l ++ [x])
  | _ + 4, _, _, u7, W => ∃ (x : S32) (jx : Nat) (bx : Bool), Q x jx bx ∧ SV w0 w W g g4 #[.int .i64 0, .int .i64 0, .string (⟨#[]⟩ : ByteArray), .slice none 0 0] s (jx : Int) bx ∧ B8 g8 u7 W ∧ RU w0 w W g4 g8 u7 (l ++ [x])
theorem P21.b8 {w0 w : World} {g g4 g8 : Nat} {s : ByteArray} {p : Int} {u : Value} {l : List S32} {Q : S32 → Nat → Bool → Prop} : ∀ {n : Nat} {u5 u6 u7 : Value} {W : World}, n < 4 → P21 w0 w g g4 g8 s p u l Q n u5 u6 u7 W → B8 g8 u W
  | 0, _, _, _, _, _, h => h.2.1
  | 1, _, _, _, _, _, ⟨_, _, _, _, _, _, _, _, h, _⟩ => h
  | 2, _, _, _, _, _, ⟨_, _, _, _, _, _, _, _, _, _, h, _⟩ => h
  | 3, _, _, _, _, _, ⟨_, _, _, _, _, h, _⟩ => h
  | _ + 4, _, _, _, _, hn, _ => absurd hn (by omega)
section
variable {w0 w W W' : World} {g g4 g8 : Nat} {s : ByteArray} {p : Int} {u u5 u6 u7 v : Value} {l : List S32} {Q : S32 → Nat → Bool → Prop}
/-- The nested value has been read. -/
theorem P21.read {o : Option (S32 × Nat)} {e : Ending} (h8 : w.heap.size ≤ g8) (h : P21 w0 w g g4 g8 s p u l (fun x jx bx => (bx = false → o = some (x, jx) ∧ jx ≤ s.size) ∧ (bx = true → o = none)) 0 u5 u6 u7 W) (hr : RdQ s o w0 W g e W') :
    ∃ v, e = .returned v ∧ ∀ v6 v7, P21 w0 w g g4 g8 s p u l (fun x jx bx => (bx = false → o = some (x, jx) ∧ jx ≤ s.size) ∧ (bx = true → o = none)) 1 v v6 v7 W' := by
  obtain ⟨hS, hB, hR⟩ := h
  obtain ⟨x, v3, jx, bx, rfl, hv, hI, hBl, hK, hq1, hq2⟩ := hr
  have hl8 : g8 < W.heap.size := blk_lt hB
  have hl4 : g4 < W.heap.size := blk_lt hS.b4
  have hw : w.heap.size ≤ W.heap.size := hS.keep.1
  have hgg : g < w.heap.size := hS.hg
  refine ⟨_, rfl, fun v6 v7 => ⟨x, v3, jx, bx, ⟨hq1, hq2⟩, rfl, ?_, hS.call hI hBl hK, ?_, ?_⟩⟩
  · refine Kd.R_mono hv (fun k hk => ⟨⟨by omega, by omega, by omega⟩, fun he => ?_⟩)
    have := Kd.R_lt hR k he.symm
    omega
  · exact (hK.2 g8 hl8 (by omega) (by simp)).trans hB
  · exact Kd.R_keep hR hK (fun k hk => by have := hk.1; omega)
theorem P21.boxed (h : P21 w0 w g g4 g8 s p u l Q 1 u5 u6 u7 W) : ∃ (x : S32) (A3 : Option Addr) (c3 : Nat), u5 = .agg #[.int .i64 x.f0, .int .i64 x.f1, .string x.f2, .slice A3 x.f3.length c3] ∧
    ∀ v5 v7, P21 w0 w g g4 g8 s p u l Q 2 v5 (.slice (some ⟨W.heap.size, 0, none⟩) 1 1) v7 (W.alloc (.cells #[.int .i64 x.f0, .int .i64 x.f1, .string x.f2, .slice A3 x.f3.length c3] 32 (0, 0))) := by
  obtain ⟨x, v3, jx, bx, hQ, hu, hv, hS, hB, hR⟩ := h
  obtain ⟨A3, c3, rfl⟩ := Kd.R_slice hv
  have hb : ∀ o : Obj, Below W.heap.size W (W.alloc o) := fun o => below_alloc (Below.refl _ _) o
  exact ⟨x, A3, c3, hu, fun v5 v7 => ⟨x, _, jx, bx, W.heap.size, hQ, rfl, blk_new _ _, Kd.R_below hv (hb _), hS.step (hb _), blk_below hB (hb _), Kd.R_below hR (hb _)⟩⟩
theorem P21.grown {bx : Bool} {jx : Nat} {x : S32} {w1 : World} {v1 : Value} (h8 : w.heap.size ≤ g8) (hQ : Q x jx bx) (hS : SV w0 w W g g4 #[.int .i64 0, .int .i64 0, .string (⟨#[]⟩ : ByteArray), .slice none 0 0] s (jx : Int) bx) (hB : B8 g8 u W) (hR : RU w0 w W g4 g8 u l) (h1 : RU w0 w w1 g4 g8 v1 (l ++ [x])) (h2 : Below w0.heap.size w0 w1) (h3 : W.grownBy w1 u.ownBlock) (v5 v6 : Value) : P21 w0 w g g4 g8 s p u l Q 3 v5 v6 v1 w1 := by
  have hgg : g < w.heap.size := hS.hg
  have a1 : some g ≠ u.ownBlock := Kd.R_away hR (fun k hk => by have := hk.1; omega)
  have a2 : some g4 ≠ u.ownBlock := Kd.R_away hR (fun k hk => hk.2.1)
  have a3 : some g8 ≠ u.ownBlock := Kd.R_away hR (fun k hk => hk.2.2)
  refine ⟨x, jx, bx, hQ, ⟨hS.rd.grown h3 a1, blk_grown hS.b4 h3 a2, hS.ge4, h2, hS.keep.trans (KeepBut.of_grown h3 g) ?_, hS.hg, hS.hw⟩, blk_grown hB h3 a3, h1⟩
  cases hu : u.ownBlock with
  | none => exact .inl rfl
  | some b => exact .inr ⟨b, rfl, (hR.1 b hu).1⟩
theorem P21.stored (h8 : w.heap.size ≤ g8) (h48 : g8 ≠ g4) (h : P21 w0 w g g4 g8 s p u l Q 3 u5 u6 u7 W) (v5 v6 : Value) : P21 w0 w g g4 g8 s p u l Q 4 v5 v6 u7 (W.setCell ⟨g8, 3, none⟩ u7) := by
  obtain ⟨x, jx, bx, hQ, hS, hB, hR⟩ := h
  exact ⟨x, jx, bx, hQ, hS.far3 h8 h48 _, blk_put hB 3 u7 rfl, Kd.R_far (p := ⟨g8, 3, none⟩) hR (fun k hk => hk.2.2) _⟩
end
theorem SV.fresh {w0 w W W' : World} {g g4 : Nat} {cs : Array Value} {s : ByteArray} {i : Int} {bad : Bool} [l : Lift W W'] (h : SV w0 w W g g4 cs s i bad) {a : Nat} (ha : a = W'.heap.size) : w.heap.size ≤ a ∧ a ≠ g4 := by
  have h1 := (SV.lift (W' := W') h).keep.1
  have h2 := blk_lt (SV.lift (W' := W') h).b4
  exact ⟨by omega, by omega⟩
theorem append21 {ops : Array Oper} {Q : Exit → Act → World → Prop} {i : Nat} {o : Oper} {a : Act} {W w0 w : World} {g4 g8 : Nat} {K : Act → World → Prop} (hoi : ops[i]? = some o) (hg : o.guard = none) (s x : Operand) (t : TypeId) (ho : o.op = .call { callee := .builtin .append, args := #[s, x], argTypes := #[t, t] })
    (ht : Tryd.prog.underlying t = some (.slice 32)) (u : Value) (l : List S32) (y : S32) (v3 : Value) (gb : Nat) (hs : a.eval s = u) (hx : a.eval x = .slice (some ⟨gb, 0, none⟩) 1 1)
    (hR : RU w0 w W g4 g8 u l) (hv : RV w0 w W g4 g8 u v3 y.f3) (hbx : W.heap[gb]? = some (.cells #[.int .i64 y.f0, .int .i64 y.f1, .string y.f2, v3] 32 (0, 0))) (hB : Below w0.heap.size w0 W) (hw : w.heap.size ≤ W.heap.size) (h4 : g4 < W.heap.size) (h8 : g8 < W.heap.size) (hl : (l.length + 1) * 56 ≤ 140737488355328)
    (h : ∀ v1 w1, RU w0 w w1 g4 g8 v1 (l ++ [y]) → Below w0.heap.size w0 w1 → W.grownBy w1 u.ownBlock → K (a.put o.dst v1) w1) : wpOp Tryd.prog ops Q i K a W := by
  have hw' : Region.wanted o (yielded ops a.tmps) = true := by unfold Region.wanted; rw [hg]
  have hst := Kd.R_append_rows_step (P := Tryd.prog) (ops := ops) (o := o) (a := a) (Q := Q) (Kc := K) (w0 := w0) (W := W) k32 (Rr := fun z c => z = y ∧ c = [.int .i64 y.f0, .int .i64 y.f1, .string y.f2, v3]) w0.heap.size hw' s x t 32 (.agg #[.int .i64 0, .int .i64 0, .string (⟨#[]⟩ : ByteArray), .slice none 0 0]) 56 ho ht info32 rfl (by decide) (by decide) u l [y] (some ⟨gb, 0, none⟩) 1 1 (OKu w g4 g8) (fun k => OKu w g4 g8 k ∧ some k ≠ u.ownBlock) hs hx hR
    ⟨rfl, by omega, fun _ => ⟨⟨gb, 0, none⟩, rfl, fun j p hj => ⟨[.int .i64 y.f0, .int .i64 y.f1, .string y.f2, v3], rfl, (by
        cases j with
        | succ j => simp at hj
        | zero => simp at hj; exact ⟨hj.symm, rfl⟩), fun i u hi => by
      cases j with
      | succ j => simp at hj
      | zero =>
        have e := blk_cell hbx i
        have e2 : (#[.int .i64 y.f0, .int .i64 y.f1, .string y.f2, v3] : Array Value)[i]? = some u := by simpa using hi
        rw [e2] at e
        rw [show 0 * k32.sz + i = i by omega]
        cases i with
        | zero => exact e
        | succ i => simpa [Addr.add] using e⟩⟩⟩ (fun z cs h => by obtain ⟨rfl, rfl⟩ := h; exact k32_mkM _ _ _ _ hv) (fun _ hk => hk) (fun k hk => ⟨by omega, by omega, by omega⟩) hB (below_size hB) hl
    (fun v1 w1 h1 h2 h3 _ => h v1 w1 h1 h2 h3)
  rw [if_pos hw'] at hst
  unfold wpOp
  rw [hoi]
  simp only [hw', if_true]
  exact .inl hst
theorem rdL_bad {s : ByteArray} {d n j : Nat} {k : List S32 × Nat → Option (S32 × Nat)} (h : rdV s d j = none) : (rdL (rdV s d) (n + 1) j).bind k = none := by simp [rdL, h]
theorem rdL_ok {s : ByteArray} {d n j j' : Nat} {x : S32} {l : List S32} (h : rdV s d j = some (x, j')) : ((rdL (rdV s d) (n + 1) j).bind fun y => some ((⟨3, 0, ⟨#[]⟩, l ++ y.1⟩, y.2) : S32 × Nat)) = (rdL (rdV s d) n j').bind fun y => some ((⟨3, 0, ⟨#[]⟩, (l ++ [x]) ++ y.1⟩, y.2) : S32 × Nat) := by
  simp only [rdL, h, Option.bind_some]
  cases rdL (rdV s d) n j' with
  | none => rfl
  | some y => simp
set_option maxHeartbeats 8000000 in
set_option maxRecDepth 100000 in
theorem valL1 (d : Nat) (hd : 1 ≤ d) (n : Int) (hn0 : 0 ≤ n) (hnd : n + (d : Int) = 16) (s : ByteArray) (i g : Nat) (w0 w : World) (hI : IsS69 w0 w g s (i : Int) false) (hB : Below w0.heap.size w0 w) (h : i < s.size) (hs : s.size ≤ 1000000) (m j : Nat) (bad : Bool) (hm : m < 18446744073709551616) (hc : codec_reader_count.f 20 s ((i + 1 : Nat) : Int) false = some ((m : Int), s, (j : Int), bad)) (ih : OkR d s) (hb : byteAt s i = 108) (o : Option (S32 × Nat)) (hj : j ≤ s.size) (hbad : bad = false) (h1 : m ≤ s.size - j) (h2 : o = (rdL (rdV s d) m j).bind fun y => some (⟨3, 0, ⟨#[]⟩, y.1⟩, y.2)) : Calls Tryd.prog 38 #[.pointer (some ⟨g, 0, none⟩), .int .i64 n] w (RdQ s o w0 w g) := by
  subst hbad
  have hd1 : decide ((s.size : Int) - (j : Int) < (m : Int)) = false := decide_eq_false (by omega)
  have hd2 : (m : Int) ≤ (s.size : Int) - (j : Int) := by omega
  have hg1 : decide (16 ≤ n) = false := decide_eq_false (by omega)
  have hm1 : m ≤ 1000000 := by omega
  have IH := Aside0.mk ih
  have HJ0 := Aside0.mk hj
  clear ih
  have HI := Aside0.mk hI
  have HB := Aside0.mk hB
  have HF := Aside0.mk (byteF s i h hs)
  rw [hb] at HF
  have HC := Aside0.mk hc
  have H1 := Aside0.mk h1
  have H2 := Aside0.mk h2
  clear hI hB hc h1 h2
  go_enter Tryd.func38, Tryd.ntmps38
  go_wp2_with (first | ((with_reducible refine gate_dst (N := 4) rfl ?_); refine box_event ?hg (N := 4) ?hd (cs := #[.int .i64 0, .int .i64 0, .string (⟨#[]⟩ : ByteArray), .slice none 0 0]) (t := 32) ?hr ?_; (case hd => rfl); (case hg => rfl); (case hr => first | (go_simp; done) | (go_simp; rfl)); intro g4 hg w4 hbox hb; have HS := Aside0.mk (SV.new (cs := #[.int .i64 0, .int .i64 0, .string (⟨#[]⟩ : ByteArray), .slice none 0 0]) HI.out HB.out hg (blL (Below.refl _ _)) hb hbox); clear hb hbox hg; obtain ⟨hc_g_0, hc_g_1, hc_g_2, hf_g_0, hf_g_1, hf_g_2⟩ := c3 HS.out.rd.1; obtain ⟨hc_4_0, hc_4_1, hc_4_2, hc_4_3, hf_4_0, hf_4_1, hf_4_2, hf_4_3⟩ := c4 HS.out.b4; have hn_4 := HS.out.ne; have hn_4' := hn_4.symm) | ((with_reducible refine gate_callee (f := 57) rfl ?_); refine goesL_ (some 11) rfl rfl Tryd.func57 (by kernel_rfl) rfl #[.pointer (some ⟨g, 0, none⟩)] rfl (by (try simp only [List.map_toArray, List.map_cons, List.map_nil]); first | done | rfl) ?_; (with_reducible refine (codec_reader_byte.calls g s (i : Int) false _ _ _ _ w0 _ (by exact (SV.lift HS.out).rd) (by exact (SV.lift HS.out).below) (HF.out)).mono ?_); rintro e w5 ⟨rfl, hI, hB, hK⟩; refine ⟨_, rfl, ?_⟩; have HS1 := Aside0.mk ((SV.lift HS.out).call hI hB hK); clear HS hI hB hK; (try clear hc_g_0 hc_g_1 hc_g_2 hf_g_0 hf_g_1 hf_g_2 hc_4_0 hc_4_1 hc_4_2 hc_4_3 hf_4_0 hf_4_1 hf_4_2 hf_4_3 hn_4 hn_4'); have HS := HS1; clear HS1; obtain ⟨hc_g_0, hc_g_1, hc_g_2, hf_g_0, hf_g_1, hf_g_2⟩ := c3 HS.out.rd.1; obtain ⟨hc_4_0, hc_4_1, hc_4_2, hc_4_3, hf_4_0, hf_4_1, hf_4_2, hf_4_3⟩ := c4 HS.out.b4; have hn_4 := HS.out.ne; have hn_4' := hn_4.symm) | ((with_reducible refine gate_callee (f := 58) rfl ?_); refine goesL_ (some 81) rfl rfl Tryd.func58 (by kernel_rfl) rfl #[.pointer (some ⟨g, 0, none⟩)] rfl (by (try simp only [List.map_toArray, List.map_cons, List.map_nil]); first | done | rfl) ?_; (with_reducible refine (codec_reader_count.calls 20 g s ((i + 1 : Nat)) false _ _ _ _ w0 _ (by exact (SV.lift HS.out).rd) (by exact (SV.lift HS.out).below) (HC.out)).mono ?_); rintro e w6 ⟨rfl, hI, hB, hK⟩; refine ⟨_, rfl, ?_⟩; have HS1 := Aside0.mk ((SV.lift HS.out).call hI hB hK); clear HS hI hB hK; (try clear hc_g_0 hc_g_1 hc_g_2 hf_g_0 hf_g_1 hf_g_2 hc_4_0 hc_4_1 hc_4_2 hc_4_3 hf_4_0 hf_4_1 hf_4_2 hf_4_3 hn_4 hn_4'); have HS := HS1; clear HS1; obtain ⟨hc_g_0, hc_g_1, hc_g_2, hf_g_0, hf_g_1, hf_g_2⟩ := c3 HS.out.rd.1; obtain ⟨hc_4_0, hc_4_1, hc_4_2, hc_4_3, hf_4_0, hf_4_1, hf_4_2, hf_4_3⟩ := c4 HS.out.b4; have hn_4 := HS.out.ne; have hn_4' := hn_4.symm))
  repeat (go_quiet (fail); try go_wp2_with (first | ((with_reducible refine gate_dst (N := 8) rfl ?_); refine box_event ?hg (N := 8) ?hd (cs := #[.int .i64 0, .int .i64 0, .string (⟨#[]⟩ : ByteArray), .slice none 0 0]) (t := 32) ?hr ?_; (case hd => rfl); (case hg => rfl); (case hr => first | (go_simp; done) | (go_simp; rfl)); intro g8 hg w8 hbox hb; have HG8 := Aside0.mk (SV.fresh HS.out hg); have HS1 := Aside0.mk ((SV.lift HS.out).step hb); have HX8 := Aside0.mk hbox; clear HS hb hg hbox; (try clear hc_g_0 hc_g_1 hc_g_2 hf_g_0 hf_g_1 hf_g_2 hc_4_0 hc_4_1 hc_4_2 hc_4_3 hf_4_0 hf_4_1 hf_4_2 hf_4_3 hn_4 hn_4'); have HS := HS1; clear HS1; obtain ⟨hc_g_0, hc_g_1, hc_g_2, hf_g_0, hf_g_1, hf_g_2⟩ := c3 HS.out.rd.1; obtain ⟨hc_4_0, hc_4_1, hc_4_2, hc_4_3, hf_4_0, hf_4_1, hf_4_2, hf_4_3⟩ := c4 HS.out.b4; have hn_4 := HS.out.ne; have hn_4' := hn_4.symm; obtain ⟨hc_8_0, hc_8_1, hc_8_2, hc_8_3, hf_8_0, hf_8_1, hf_8_2, hf_8_3⟩ := c4 HX8.out)))
  go_loopg [9] m (fun kq v9 w' => ∃ (q jq : Nat) (bq : Bool) (l : List S32) (u : Value), v9 = .int .u64 (q : Int) ∧ Hid (q + kq = m) ∧ Aside0 (SV w0 w w' g g4 #[.int .i64 0, .int .i64 0, .string (⟨#[]⟩ : ByteArray), .slice none 0 0] s (jq : Int) bq) ∧ Aside0 (B8 g8 u w') ∧ Aside0 (RU w0 w w' g4 g8 u l) ∧ Aside0 (l.length = q) ∧ Aside0 (bq = false → jq ≤ s.size ∧ o = ((rdL (rdV s d) (m - q) jq).bind fun y => some ((⟨3, 0, ⟨#[]⟩, l ++ y.1⟩, y.2) : S32 × Nat))) ∧ Aside0 (bq = true → o = none))
  case atStart =>
    have hg8 := HG8.out
    refine ⟨0, j, false, [], .slice none 0 0, rfl, by simp [Hid], ⟨SV.far3 (SV.far3 (SV.far3 (SV.far3 HS.out hg8.1 hg8.2 _) hg8.1 hg8.2 _) hg8.1 hg8.2 _) hg8.1 hg8.2 _⟩, ⟨st4_put HX8.out _ _ _ _⟩, ⟨Kd.R_nil _ _ _ _ _⟩, ⟨rfl⟩, ⟨fun _ => ⟨HJ0.out, by rw [H2.out]; simp⟩⟩, ⟨fun h => Bool.noConfusion h⟩⟩
  case round =>
    clear HS HX8 hc_8_0 hc_8_1 hc_8_2 hc_8_3 hf_8_0 hf_8_1 hf_8_2 hf_8_3
    (try clear hc_g_0 hc_g_1 hc_g_2 hf_g_0 hf_g_1 hf_g_2 hc_4_0 hc_4_1 hc_4_2 hc_4_3 hf_4_0 hf_4_1 hf_4_2 hf_4_3 hn_4 hn_4')
    obtain ⟨q, jq, bq, l, u, rfl, HI, HS, HB8, HR, HLE, HO1, HO2⟩ := hrel
    obtain ⟨A, c, rfl⟩ := Kd.R_slice HR.out
    have hi := HI.out
    cases gk with
    | zero =>
      have hlss : decide ((q : Int) < (m : Int)) = false := decide_eq_false (by omega)
      obtain ⟨hc_g_0, hc_g_1, hc_g_2, hf_g_0, hf_g_1, hf_g_2⟩ := c3 HS.out.rd.1; obtain ⟨hc_4_0, hc_4_1, hc_4_2, hc_4_3, hf_4_0, hf_4_1, hf_4_2, hf_4_3⟩ := c4 HS.out.b4; have hn_4 := HS.out.ne; have hn_4' := hn_4.symm
      obtain ⟨hc_8_0, hc_8_1, hc_8_2, hc_8_3, hf_8_0, hf_8_1, hf_8_2, hf_8_3⟩ := c4 HB8.out
      have hn_48 := HG8.out.2; have hn_84 := hn_48.symm
      go_wp2
      have HS2 := SV.store4 HS.out (.int .i64 3) (.int .i64 0) (.string (⟨#[]⟩ : ByteArray)) (.slice A l.length c)
      refine bodyPost_ret (results_cell_row rfl _ _ g4 32 #[.int .i64 3, .int .i64 0, .string (⟨#[]⟩ : ByteArray), .slice A l.length c] (0, 0) _ rfl (HS2.b4) Tryd.underlying32 rfl (by kernel_rfl)) rfl ?_
      exact rdq_any ⟨3, 0, ⟨#[]⟩, l⟩ _ HS2 (Kd.R_mono (R_far4 HR.out (fun k hk => hk.2.1) _ _ _ _) (fun _ hk => hk.1)) (fun hb => ⟨by rw [(HO1.out hb).2, show m - q = 0 by omega]; simp [rdL], (HO1.out hb).1⟩) HO2.out
    | succ gn =>
      have hlss : decide ((q : Int) < (m : Int)) = true := decide_eq_true (by omega)
      cases bq with
      | true =>
        obtain ⟨hc_g_0, hc_g_1, hc_g_2, hf_g_0, hf_g_1, hf_g_2⟩ := c3 HS.out.rd.1; obtain ⟨hc_4_0, hc_4_1, hc_4_2, hc_4_3, hf_4_0, hf_4_1, hf_4_2, hf_4_3⟩ := c4 HS.out.b4; have hn_4 := HS.out.ne; have hn_4' := hn_4.symm
        obtain ⟨hc_8_0, hc_8_1, hc_8_2, hc_8_3, hf_8_0, hf_8_1, hf_8_2, hf_8_3⟩ := c4 HB8.out
        have hn_48 := HG8.out.2; have hn_84 := hn_48.symm
        go_wp2
        have HS2 := SV.store4 HS.out (.int .i64 3) (.int .i64 0) (.string (⟨#[]⟩ : ByteArray)) (.slice A l.length c)
        refine bodyPost_ret (results_cell_row rfl _ _ g4 32 #[.int .i64 3, .int .i64 0, .string (⟨#[]⟩ : ByteArray), .slice A l.length c] (0, 0) _ rfl (HS2.b4) Tryd.underlying32 rfl (by kernel_rfl)) rfl ?_
        exact rdq_any ⟨3, 0, ⟨#[]⟩, l⟩ _ HS2 (Kd.R_mono (R_far4 HR.out (fun k hk => hk.2.1) _ _ _ _) (fun _ hk => hk.1)) (fun hb => Bool.noConfusion hb) (fun _ => by first | exact HO2.out rfl | exact HO2.out trivial)
      | false =>
        have HJQ := Aside0.mk (HO1.out rfl).1
        have HO3 := Aside0.mk (HO1.out rfl).2
        have HLL := Aside0.mk (show l.length ≤ 1000000 by have := HLE.out; omega)
        clear HO1 HO2
        have hwq : IntKind.u64.wrap ((q : Int) + 1) = (q : Int) + 1 := wrap_u64 (by omega) (by omega)
        obtain ⟨hc_g_0, hc_g_1, hc_g_2, hf_g_0, hf_g_1, hf_g_2⟩ := c3 HS.out.rd.1; obtain ⟨hc_4_0, hc_4_1, hc_4_2, hc_4_3, hf_4_0, hf_4_1, hf_4_2, hf_4_3⟩ := c4 HS.out.b4; have hn_4 := HS.out.ne; have hn_4' := hn_4.symm
        obtain ⟨hc_8_0, hc_8_1, hc_8_2, hc_8_3, hf_8_0, hf_8_1, hf_8_2, hf_8_3⟩ := c4 HB8.out
        have hn_48 := HG8.out.2; have hn_84 := hn_48.symm
        go_wp2
        obtain ⟨XF, hXF⟩ : ∃ XF : Nat → Option Value, XF = fun k => (([some (.pointer (some ⟨g8, 3, none⟩)), some (.slice A l.length c), some (.pointer (some ⟨g, 0, none⟩)), some (.int .i64 n), some (.int .i64 (n + 1)), none, none, none, some (.pointer (some ⟨g8, 3, none⟩)), none] : List (Option Value))[k]?).join := ⟨_, rfl⟩
        have X0 : XF 0 = some (.pointer (some ⟨g8, 3, none⟩)) := by rw [hXF]; rfl
        have X1 : XF 1 = some (.slice A l.length c) := by rw [hXF]; rfl
        have X2 : XF 2 = some (.pointer (some ⟨g, 0, none⟩)) := by rw [hXF]; rfl
        have X3 : XF 3 = some (.int .i64 n) := by rw [hXF]; rfl
        have X4 : XF 4 = some (.int .i64 (n + 1)) := by rw [hXF]; rfl
        have X5 : XF 5 = none := by rw [hXF]; rfl
        have X6 : XF 6 = none := by rw [hXF]; rfl
        have X7 : XF 7 = none := by rw [hXF]; rfl
        have X8 : XF 8 = some (.pointer (some ⟨g8, 3, none⟩)) := by rw [hXF]; rfl
        have X9 : XF 9 = none := by rw [hXF]; rfl
        clear hXF
        refine wp_region_noPanic ?_
        refine DR.wp_region_inv [some 122, some 123, some 124, some 125, some 126, some 127, some 128, some 129, some 130, none] (JC XF [5, 6, 7, 9] [(7, 1)] (fun n vals W => P21 w0 w g g4 g8 s (jq : Int) (.slice A l.length c) l (fun x jx bx => (bx = false → rdV s d jq = some (x, jx) ∧ jx ≤ s.size) ∧ (bx = true → rdV s d jq = none)) n (vals 5) (vals 6) (vals 7) W)) (by kernel_rfl) (by kernel_rfl) (by kernel_rfl) (by kernel_rfl) (fun vals => JC.init (⟨SV.lift HS.out, blk_below HB8.out (Lift.h (W := wr)), Kd.R_drew HR.out⟩)) ?step ?fin
        case step =>
          intro jx o_ ls vals a0_ w13 ho hj hpre hS hJ
          have hjlt : jx < 10 := (Array.getElem?_eq_some_iff.1 ho).1
          obtain rfl | rfl | rfl | rfl | rfl | rfl | rfl | rfl | rfl | rfl : jx = 0 ∨ jx = 1 ∨ jx = 2 ∨ jx = 3 ∨ jx = 4 ∨ jx = 5 ∨ jx = 6 ∨ jx = 7 ∨ jx = 8 ∨ jx = 9 := by clear hpre; omega
          · cases ho
            have e8 : a0_.tmps[8]?.getD undef = .pointer (some ⟨g8, 0, none⟩) := (DR.eval_get a0_ _).trans (hS.out' rfl rfl)
            refine DR.wpOp_run (v := .pointer (some ⟨g8, 3, none⟩)) (w' := w13) rfl rfl ?_ ⟨_, rfl, hJ.value X0 (by decide) (by simp []) (fun _ h => h)⟩
            clear hS hJ hpre
            first | (go_simp; done) | (go_simp; rfl)
          · cases ho
            have p0 : ls 0 = true := hpre { on := 0, ground := Ground.data } (by simp) rfl
            have e122 : a0_.tmps[122]?.getD undef = .pointer (some ⟨g8, 3, none⟩) := (DR.eval_get a0_ _).trans ((hS.on 0 122 rfl p0).trans (hJ.val 0 _ X0 p0))
            obtain ⟨nx, hnC, hnl, hph⟩ := hJ.ph
            have hn4 : nx < 4 := by
              apply Decidable.by_contra
              intro hh
              have h7 := (hnC 2 7 rfl).2 (by omega)
              have h71 := hJ.dc 7 1 (by simp) h7
              rw [hj] at h71
              cases h71
            have hb8 := P21.b8 hn4 hph
            have hc8 : w13.cell? ⟨g8, 3, none⟩ = some (.slice A l.length c) := (blk_cell hb8 3).trans rfl
            refine DR.wpOp_run (v := .slice A l.length c) (w' := w13) rfl rfl ?_ ⟨_, rfl, hJ.value X1 (by decide) (by simp [p0]) (fun _ h => h)⟩
            clear hS hJ hpre
            first | (go_simp; done) | (go_simp; rfl)
          · cases ho
            have e0 : a0_.tmps[0]?.getD undef = .pointer (some ⟨g, 0, none⟩) := (DR.eval_get a0_ _).trans (hS.out' rfl rfl)
            refine DR.wpOp_run (v := .pointer (some ⟨g, 0, none⟩)) (w' := w13) rfl rfl ?_ ⟨_, rfl, hJ.value X2 (by decide) (by simp []) (fun _ h => h)⟩
            clear hS hJ hpre
            first | (go_simp; done) | (go_simp; rfl)
          · cases ho
            have e1 : a0_.tmps[1]?.getD undef = .int .i64 n := (DR.eval_get a0_ _).trans (hS.out' rfl rfl)
            refine DR.wpOp_run (v := .int .i64 n) (w' := w13) rfl rfl ?_ ⟨_, rfl, hJ.value X3 (by decide) (by simp []) (fun _ h => h)⟩
            clear hS hJ hpre
            first | (go_simp; done) | (go_simp; rfl)
          · cases ho
            have p3 : ls 3 = true := hpre { on := 3, ground := Ground.data } (by simp) rfl
            have e125 : a0_.tmps[125]?.getD undef = .int .i64 n := (DR.eval_get a0_ _).trans ((hS.on 3 125 rfl p3).trans (hJ.val 3 _ X3 p3))
            have hwn : IntKind.i64.wrap (n + 1) = n + 1 := wrap_i64 (by omega) (by omega)
            refine DR.wpOp_run (v := .int .i64 (n + 1)) (w' := w13) rfl rfl ?_ ⟨_, rfl, hJ.value X4 (by decide) (by simp [p3]) (fun _ h => h)⟩
            clear hS hJ hpre
            first | (go_simp; done) | (go_simp; rfl)
          · cases ho
            have p2 : ls 2 = true := hpre { on := 2, ground := Ground.data } (by simp) rfl
            have p4 : ls 4 = true := hpre { on := 4, ground := Ground.data } (by simp) rfl
            have e124 : a0_.tmps[124]?.getD undef = .pointer (some ⟨g, 0, none⟩) := (DR.eval_get a0_ _).trans ((hS.on 2 124 rfl p2).trans (hJ.val 2 _ X2 p2))
            have e126 : a0_.tmps[126]?.getD undef = .int .i64 (n + 1) := (DR.eval_get a0_ _).trans ((hS.on 4 126 rfl p4).trans (hJ.val 4 _ X4 p4))
            have E124 := (DR.eval_get a0_ 124).symm.trans e124
            have E126 := (DR.eval_get a0_ 126).symm.trans e126
            have hP0 : P21 w0 w g g4 g8 s (jq : Int) (.slice A l.length c) l (fun x jx bx => (bx = false → rdV s d jq = some (x, jx) ∧ jx ≤ s.size) ∧ (bx = true → rdV s d jq = none)) 0 (vals 5) (vals 6) (vals 7) w13 := hJ.at_ (i := 5) (n := 0) rfl hj (.inl rfl)
            obtain ⟨hS0, hB0, hR0⟩ := id hP0
            refine DR.wpOp_call rfl rfl Tryd.func38 (by kernel_rfl) rfl #[.pointer (some ⟨g, 0, none⟩), .int .i64 (n + 1)] rfl (by simp only [List.map_toArray, List.map_cons, List.map_nil, E124, E126]) ?_
            refine (IH.out jq g w0 w13 (n + 1) (by omega) hS0.rd hS0.below HJQ.out).mono ?_
            rintro e wc hr
            obtain ⟨v5, rfl, hp⟩ := P21.read HG8.out.1 hP0 hr
            exact ⟨_, rfl, _, rfl, hJ.event (i := 5) (n := 0) rfl (by decide) X5 hj (.inl rfl) (by simp) (hp _ _)⟩
          · cases ho
            have p5 : ls 5 = true := hpre { on := 5, ground := Ground.data } (by simp) rfl
            have hP0 : P21 w0 w g g4 g8 s (jq : Int) (.slice A l.length c) l (fun x jx bx => (bx = false → rdV s d jq = some (x, jx) ∧ jx ≤ s.size) ∧ (bx = true → rdV s d jq = none)) 1 (vals 5) (vals 6) (vals 7) w13 := hJ.at_ (i := 6) (n := 1) rfl hj (.inr ⟨5, rfl, p5⟩)
            obtain ⟨x, A3, c3, hu, hP1⟩ := P21.boxed hP0
            have e127 : a0_.tmps[127]?.getD undef = .agg #[.int .i64 x.f0, .int .i64 x.f1, .string x.f2, .slice A3 x.f3.length c3] := (DR.eval_get a0_ _).trans ((hS.on 5 127 rfl p5).trans hu)
            refine DR.wpOp_run (v := .slice (some ⟨w13.heap.size, 0, none⟩) 1 1) (w' := w13.alloc (.cells #[.int .i64 x.f0, .int .i64 x.f1, .string x.f2, .slice A3 x.f3.length c3] 32 (0, 0))) rfl rfl ?_ ⟨_, rfl, hJ.event (i := 6) (n := 1) rfl (by decide) X6 hj (.inr ⟨5, rfl, p5⟩) (by simp) (hP1 _ _)⟩
            clear hS hJ hpre hP0 hP1 hu
            first | (go_simp; done) | (go_simp; rfl)
          · cases ho
            have p1 : ls 1 = true := hpre { on := 1, ground := Ground.data } (by simp) rfl
            have p6 : ls 6 = true := hpre { on := 6, ground := Ground.data } (by simp) rfl
            have e123 : a0_.tmps[123]?.getD undef = .slice A l.length c := (DR.eval_get a0_ _).trans ((hS.on 1 123 rfl p1).trans (hJ.val 1 _ X1 p1))
            have E123 := (DR.eval_get a0_ 123).symm.trans e123
            have hP0 : P21 w0 w g g4 g8 s (jq : Int) (.slice A l.length c) l (fun x jx bx => (bx = false → rdV s d jq = some (x, jx) ∧ jx ≤ s.size) ∧ (bx = true → rdV s d jq = none)) 2 (vals 5) (vals 6) (vals 7) w13 := hJ.at_ (i := 7) (n := 2) rfl hj (.inr ⟨6, rfl, p6⟩)
            obtain ⟨x, v3, jx, bx, gb, hQ, h6, hbx, hRV, hS0, hB0, hR0⟩ := id hP0
            have E128 : a0_.eval (.tmp 128) = .slice (some ⟨gb, 0, none⟩) 1 1 := (hS.on 6 128 rfl p6).trans h6
            exact append21 rfl rfl (.tmp 123) (.tmp 128) 30 rfl Tryd.underlying30 (.slice A l.length c) l x v3 gb E123 E128 hR0 hRV hbx hS0.below hS0.keep.1 (blk_lt hS0.b4) (blk_lt hB0) (by have := HLL.out; omega) (fun v1 w1 h1 h2 h3 => ⟨_, rfl, hJ.event (i := 7) (n := 2) rfl (by decide) X7 hj (.inr ⟨6, rfl, p6⟩) (by simp [p1]) (P21.grown HG8.out.1 hQ hS0 hB0 hR0 h1 h2 h3 _ _)⟩)
          · cases ho
            have e8 : a0_.tmps[8]?.getD undef = .pointer (some ⟨g8, 0, none⟩) := (DR.eval_get a0_ _).trans (hS.out' rfl rfl)
            refine DR.wpOp_run (v := .pointer (some ⟨g8, 3, none⟩)) (w' := w13) rfl rfl ?_ ⟨_, rfl, hJ.value X8 (by decide) (by simp []) (fun _ h => h)⟩
            clear hS hJ hpre
            first | (go_simp; done) | (go_simp; rfl)
          · cases ho
            have p7 : ls 7 = true := hpre { on := 7, ground := Ground.data } (by simp) rfl
            have p8 : ls 8 = true := hpre { on := 8, ground := Ground.data } (by simp) rfl
            have e130 : a0_.tmps[130]?.getD undef = .pointer (some ⟨g8, 3, none⟩) := (DR.eval_get a0_ _).trans ((hS.on 8 130 rfl p8).trans (hJ.val 8 _ X8 p8))
            have hP0 : P21 w0 w g g4 g8 s (jq : Int) (.slice A l.length c) l (fun x jx bx => (bx = false → rdV s d jq = some (x, jx) ∧ jx ≤ s.size) ∧ (bx = true → rdV s d jq = none)) 3 (vals 5) (vals 6) (vals 7) w13 := hJ.at_ (i := 9) (n := 3) rfl hj (.inr ⟨7, rfl, p7⟩)
            obtain ⟨x, jx, bx, hQ, hS0, hB0, hR0⟩ := id hP0
            obtain ⟨A7, c7, h7⟩ := Kd.R_slice hR0
            have e129 : a0_.tmps[129]?.getD undef = .slice A7 (l ++ [x]).length c7 := (DR.eval_get a0_ _).trans ((hS.on 7 129 rfl p7).trans h7)
            have hc8 : w13.cell? ⟨g8, 3, none⟩ = some (.slice A l.length c) := (blk_cell hB0 3).trans rfl
            have hf8 := blk_frozen hB0 3
            have hst := P21.stored HG8.out.1 HG8.out.2 hP0
            rw [h7] at hst
            refine DR.wpOp_skip (w' := w13.setCell ⟨g8, 3, none⟩ (.slice A7 (l ++ [x]).length c7)) rfl rfl ?_ ⟨_, rfl, hJ.event (i := 9) (n := 3) rfl (by decide) X9 hj (.inr ⟨7, rfl, p7⟩) (by simp) (show P21 w0 w g g4 g8 s (jq : Int) (.slice A l.length c) l (fun x jx bx => (bx = false → rdV s d jq = some (x, jx) ∧ jx ≤ s.size) ∧ (bx = true → rdV s d jq = none)) 4 (vals 5) (vals 6) (vals 7) _ by rw [h7]; exact hst _ _)⟩
            clear hS hJ hpre hP0 hst hQ hS0 hB0 hR0
            first | (go_simp; done) | (go_simp; rfl)
        case fin =>
          intro vals w13 hJ
          have v0 := hJ.val 0 _ X0 rfl
          have v1 := hJ.val 1 _ X1 rfl
          have v2 := hJ.val 2 _ X2 rfl
          have v3 := hJ.val 3 _ X3 rfl
          have v4 := hJ.val 4 _ X4 rfl
          have v8 := hJ.val 8 _ X8 rfl
          have hP := hJ.fin (by decide)
          clear hJ X0 X1 X2 X3 X4 X5 X6 X7 X8 X9
          obtain ⟨v5, hv5⟩ : ∃ v, v = vals 5 := ⟨_, rfl⟩
          obtain ⟨v6, hv6⟩ : ∃ v, v = vals 6 := ⟨_, rfl⟩
          obtain ⟨v7, hv7⟩ : ∃ v, v = vals 7 := ⟨_, rfl⟩
          refine NoPanic.normal ?_
          simp only [DR.putAll, v0, v1, v2, v3, v4, v8, ← hv5, ← hv6, ← hv7]
          simp only [Act.put, List.setIfInBounds_toArray, List.set_cons_zero, List.set_cons_succ]
          obtain ⟨x, jx, bx, hQ, hS1, hB1, hR1⟩ := (show P21 w0 w g g4 g8 s (jq : Int) (.slice A l.length c) l (fun x jx bx => (bx = false → rdV s d jq = some (x, jx) ∧ jx ≤ s.size) ∧ (bx = true → rdV s d jq = none)) 4 (vals 5) (vals 6) (vals 7) w13 from hP)
          clear hP HS HB8 HR
          have HS := Aside0.mk hS1
          have HB8 := Aside0.mk hB1
          have HR := Aside0.mk hR1
          have HQ := Aside0.mk hQ
          clear hS1 hB1 hR1 hQ
          go_wp2
          go_roundg gn
          case measure => omega
          case rel =>
            refine ⟨q + 1, jx, bx, l ++ [x], vals 7, (by first | rfl | (simp; done) | (simp [*]; done)), (by simp only [Hid]; omega), HS, HB8, HR, ⟨by have := HLE.out; simp; omega⟩, ⟨fun hb => ?_⟩, ⟨fun hb => ?_⟩⟩
            · refine ⟨(HQ.out.1 hb).2, ?_⟩
              rw [HO3.out, show m - q = (m - (q + 1)) + 1 by omega]
              exact rdL_ok (HQ.out.1 hb).1
            · rw [HO3.out, show m - q = (m - (q + 1)) + 1 by omega]
              exact rdL_bad (HQ.out.2 hb)
theorem valAll (s : ByteArray) (hs : s.size ≤ 1000000) : ∀ d, 1 ≤ d → d ≤ 17 → OkR d s
  | 0, h, _ => absurd h (by omega)
  | d + 1, _, hd => by
    intro i g w0 w N hN hI hB hi
    by_cases h : i < s.size
    · have hc := cntP s hs (i + 1) (by omega)
      have e : rdV s (d + 1) i = if byteAt s i = 110 then (cntAt s (i + 1)).bind fun c => some (⟨1, unz c.1, ⟨#[]⟩, []⟩, c.2) else if byteAt s i = 116 then (cntAt s (i + 1)).bind fun c => if c.1 ≤ s.size - c.2 then some (⟨2, 0, s.extract c.2 (c.2 + c.1), []⟩, c.2 + c.1) else none else if byteAt s i = 108 then (cntAt s (i + 1)).bind fun c => if d = 0 then none else if c.1 ≤ s.size - c.2 then (rdL (rdV s d) c.1 c.2).bind fun y => some (⟨3, 0, ⟨#[]⟩, y.1⟩, y.2) else none else none := by
        rw [rdV, if_pos h]
      by_cases h1 : byteAt s i = 110
      · rw [if_pos h1] at e
        generalize hca : cntAt s (i + 1) = co at hc e
        cases co with
        | none =>
          obtain ⟨j, hc, hj⟩ := hc
          exact valN s i g w0 w hI hB h hs 0 j true (by omega) hc h1 _ (fun h => Bool.noConfusion h) (fun _ => e) N
        | some p =>
          obtain ⟨m, j⟩ := p
          obtain ⟨hc, hj, hij, hm⟩ := hc
          exact valN s i g w0 w hI hB h hs m j false (by simpa using hm) hc h1 _ (fun _ => ⟨e, hj⟩) (fun h => Bool.noConfusion h) N
      · rw [if_neg h1] at e
        by_cases h2 : byteAt s i = 116
        · rw [if_pos h2] at e
          generalize hca : cntAt s (i + 1) = co at hc e
          cases co with
          | none =>
            obtain ⟨j, hc, hj⟩ := hc
            exact valT0 s i g w0 w hI hB h hs 0 j true (by omega) hc h2 _ hj (.inl rfl) e N
          | some p =>
            obtain ⟨m, j⟩ := p
            obtain ⟨hc, hj, hij, hm⟩ := hc
            simp only [Option.bind_some] at e
            by_cases hmj : m ≤ s.size - j
            · rw [if_pos hmj] at e
              exact valT1 s i g w0 w hI hB h hs m j false (by simpa using hm) hc h2 _ hj rfl hmj e N
            · rw [if_neg hmj] at e
              exact valT0 s i g w0 w hI hB h hs m j false (by simpa using hm) hc h2 _ hj (.inr hmj) e N
        · rw [if_neg h2] at e
          by_cases h3 : byteAt s i = 108
          · rw [if_pos h3] at e
            generalize hca : cntAt s (i + 1) = co at hc e
            cases co with
            | none =>
              obtain ⟨j, hc, hj⟩ := hc
              exact valL0 s i g w0 w hI hB h hs 0 j true (by omega) hc h3 _ hj N (.inl rfl) e
            | some p =>
              obtain ⟨m, j⟩ := p
              obtain ⟨hc, hj, hij, hm⟩ := hc
              simp only [Option.bind_some] at e
              by_cases hd0 : d = 0
              · rw [if_pos hd0] at e
                exact valL0 s i g w0 w hI hB h hs m j false (by simpa using hm) hc h3 _ hj N (.inr (.inl (by omega))) e
              · rw [if_neg hd0] at e
                by_cases hmj : m ≤ s.size - j
                · rw [if_pos hmj] at e
                  exact valL1 d (by omega) N (by omega) (by omega) s i g w0 w hI hB h hs m j false (by simpa using hm) hc (valAll s hs d (by omega) (by omega)) h3 _ hj rfl hmj e
                · rw [if_neg hmj] at e
                  exact valL0 s i g w0 w hI hB h hs m j false (by simpa using hm) hc h3 _ hj N (.inr (.inr hmj)) e
          · rw [if_neg h3] at e
            rw [e]
            exact valO s i g w0 w hI hB N h hs _ rfl h1 h2 h3
    · rw [show rdV s (d + 1) i = none by rw [rdV, if_neg h]]
      exact valE d s i g w0 w hI hB N (by omega)
/-! ### codec_First: function 20, walked by hand -/
theorem fresh0 {w W' : World} [l : Lift w W'] {a : Nat} (ha : a = W'.heap.size) : w.heap.size ≤ a := by rw [ha]; exact l.h.size
theorem new0 {w W' W2 : World} [l : Lift w W'] (hb : Below W'.heap.size W' W2) : Below w.heap.size w W2 := below_step l.h hb
structure FW (w W : World) (g2 g13 : Nat) (s : ByteArray) (j : Int) (bad : Bool) (c2 : Array Value) : Prop where
  rd : IsS69 w W g13 s j bad
  b2 : W.heap[g2]? = some (.cells c2 32 (0, 0))
  lo : w.heap.size ≤ g2
  ne : g2 ≠ g13
  below : Below w.heap.size w W
structure FX (w W : World) (g2 g13 g6 : Nat) (s : ByteArray) (j : Int) (bad : Bool) (c2 c6 : Array Value) (v : Value) (l : List S32) : Prop where
  f : FW w W g2 g13 s j bad c2
  b6 : W.heap[g6]? = some (.cells c6 32 (0, 0))
  lo6 : w.heap.size ≤ g6
  n26 : g2 ≠ g6
  n13 : g13 ≠ g6
  own : Kd.R k32 32 W w.heap.size (fun k => k ≠ g2 ∧ k ≠ g6) v l
section
variable {w W W' W2 : World} {g2 g13 g6 : Nat} {s : ByteArray} {j : Int} {bad : Bool} {c2 c6 : Array Value} {v : Value} {l : List S32}
theorem FW.step (h : FW w W g2 g13 s j bad c2) (hb : Below W.heap.size W W') : FW w W' g2 g13 s j bad c2 := ⟨h.rd.below hb, blk_below h.b2 hb, h.lo, h.ne, below_step h.below hb⟩
theorem FW.lift [i : Lift W W'] (h : FW w W g2 g13 s j bad c2) : FW w W' g2 g13 s j bad c2 := h.step i.h
theorem FW.new (h2 : W.heap[g2]? = some (.cells c2 32 (0, 0))) (hl : w.heap.size ≤ g2) (hB : Below w.heap.size w W) [i : Lift W W'] {a : Nat} (ha : a = W'.heap.size) (hb : Below W'.heap.size W' W2) (hbox : W2.heap[a]? = some (.cells #[.string s, .int .i64 j, .bool bad] 69 (0, 0))) : FW w W2 g2 a s j bad c2 := by
  have h2' := blk_below h2 i.h
  have hlt := blk_lt h2'
  have hB' := below_step hB i.h
  exact ⟨⟨hbox, by rw [ha]; exact hB'.size⟩, blk_below h2' hb, hl, by omega, below_step hB' hb⟩
theorem FW.call {j' : Int} {bad' : Bool} (h : FW w W g2 g13 s j bad c2) (hI : IsS69 w W' g13 s j' bad') (hB : Below w.heap.size w W') (hK : KeepBut W W' g13 none) : FW w W' g2 g13 s j' bad' c2 :=
  ⟨hI, (hK.2 g2 (blk_lt h.b2) h.ne (by simp)).trans h.b2, h.lo, h.ne, hB⟩
theorem FW.own (h : FW w W g2 g13 s j bad c2) (hv : Kd.R k32 32 W' w.heap.size (fun k => W.heap.size ≤ k) v l) : Kd.R k32 32 W' w.heap.size (fun k => k ≠ g2) v l :=
  Kd.R_mono hv (fun k hk => by have := blk_lt h.b2; omega)
theorem FX.new (h : FW w W g2 g13 s j bad c2) (hv : Kd.R k32 32 W w.heap.size (fun k => k ≠ g2) v l) [i : Lift W W'] {a : Nat} (ha : a = W'.heap.size) (hb : Below W'.heap.size W' W2) (hbox : W2.heap[a]? = some (.cells c6 32 (0, 0))) : FX w W2 g2 g13 a s j bad c2 c6 v l := by
  have h' := h.step i.h
  have l2 := blk_lt h'.b2
  have l13 := blk_lt h'.rd.1
  exact ⟨h'.step hb, hbox, by rw [ha]; exact h'.below.size, by omega, by omega, Kd.R_below (Kd.R_mono (Kd.R_bound (Kd.R_below hv i.h)) (fun k hk => ⟨hk.1, by have := hk.2.2.1; omega⟩)) hb⟩
theorem FX.step (h : FX w W g2 g13 g6 s j bad c2 c6 v l) (hb : Below W.heap.size W W') : FX w W' g2 g13 g6 s j bad c2 c6 v l := ⟨h.f.step hb, blk_below h.b6 hb, h.lo6, h.n26, h.n13, Kd.R_below h.own hb⟩
theorem FX.lift [i : Lift W W'] (h : FX w W g2 g13 g6 s j bad c2 c6 v l) : FX w W' g2 g13 g6 s j bad c2 c6 v l := h.step i.h
theorem FX.store6 {a b c d : Value} (h : FX w W g2 g13 g6 s j bad c2 #[a, b, c, d] v l) (u0 u1 u2 u3 : Value) :
    FX w ((((W.setCell ⟨g6, 0, none⟩ u0).setCell ⟨g6, 1, none⟩ u1).setCell ⟨g6, 2, none⟩ u2).setCell ⟨g6, 3, none⟩ u3) g2 g13 g6 s j bad c2 #[u0, u1, u2, u3] v l :=
  ⟨⟨⟨st4_far h.f.rd.1 h.n13 u0 u1 u2 u3, h.f.rd.2⟩, st4_far h.f.b2 h.n26 u0 u1 u2 u3, h.f.lo, h.f.ne, st4_B h.f.below h.lo6 u0 u1 u2 u3⟩, st4_put h.b6 u0 u1 u2 u3, h.lo6, h.n26, h.n13, R_far4 h.own (fun k hk => hk.2) u0 u1 u2 u3⟩
theorem FX.store2 {a b c d : Value} (h : FX w W g2 g13 g6 s j bad #[a, b, c, d] c6 v l) (u0 u1 u2 u3 : Value) :
    FX w ((((W.setCell ⟨g2, 0, none⟩ u0).setCell ⟨g2, 1, none⟩ u1).setCell ⟨g2, 2, none⟩ u2).setCell ⟨g2, 3, none⟩ u3) g2 g13 g6 s j bad #[u0, u1, u2, u3] c6 v l :=
  ⟨⟨⟨st4_far h.f.rd.1 h.f.ne.symm u0 u1 u2 u3, h.f.rd.2⟩, st4_put h.f.b2 u0 u1 u2 u3, h.f.lo, h.f.ne, st4_B h.f.below h.f.lo u0 u1 u2 u3⟩, st4_far h.b6 h.n26.symm u0 u1 u2 u3, h.lo6, h.n26, h.n13, R_far4 h.own (fun k hk => hk.1) u0 u1 u2 u3⟩
end
def codec_First.f (a0 : ByteArray) : Option (Int × Int × ByteArray × (List (S32)) × Int × Int) := some (firstV a0)
abbrev FQ (w : World) (r : Int × Int × ByteArray × (List S32) × Int × Int) (e : Ending) (w' : World) : Prop :=
  ∃ v3_ : Value, e = .returned (.tuple #[.agg #[.int .i64 r.1, .int .i64 r.2.1, .string r.2.2.1, v3_], .int .i64 r.2.2.2.2.1, .int .i64 r.2.2.2.2.2]) ∧ Kd.R k32 32 w' w.heap.size (fun _ => True) v3_ r.2.2.2.1 ∧ Below w.heap.size w w'
theorem FQ.of {w W : World} {r : Int × Int × ByteArray × (List S32) × Int × Int} (r' : Int × Int × ByteArray × (List S32) × Int × Int) (hr : r = r') {v : Value} (hv : Kd.R k32 32 W w.heap.size (fun _ => True) v r'.2.2.2.1) (hB : Below w.heap.size w W) :
    FQ w r (.returned (.tuple #[.agg #[.int .i64 r'.1, .int .i64 r'.2.1, .string r'.2.2.1, v], .int .i64 r'.2.2.2.2.1, .int .i64 r'.2.2.2.2.2])) W := by subst hr; exact ⟨v, rfl, hv, hB⟩
def FP (w : World) (g2 g13 g6 : Nat) (a0 : ByteArray) (j : Nat) (x : S32) (v : Value) : Nat → World → Prop
  | 0, W => FX w W g2 g13 g6 a0 (j : Int) false #[.int .i64 0, .int .i64 0, .string (⟨#[]⟩ : ByteArray), .slice none 0 0] #[.int .i64 x.f0, .int .i64 x.f1, .string x.f2, v] v x.f3
  | _ + 1, W => FX w W g2 g13 g6 a0 (j : Int) false #[.int .i64 x.f0, .int .i64 x.f1, .string x.f2, v] #[.int .i64 x.f0, .int .i64 x.f1, .string x.f2, v] v x.f3
theorem FP.b6 {w : World} {g2 g13 g6 : Nat} {a0 : ByteArray} {j : Nat} {x : S32} {v : Value} : ∀ {n : Nat} {W : World}, FP w g2 g13 g6 a0 j x v n W → W.heap[g6]? = some (.cells #[.int .i64 x.f0, .int .i64 x.f1, .string x.f2, v] 32 (0, 0))
  | 0, _, h => FX.b6 h
  | _ + 1, _, h => FX.b6 h
theorem FP.rd {w : World} {g2 g13 g6 : Nat} {a0 : ByteArray} {j : Nat} {x : S32} {v : Value} : ∀ {n : Nat} {W : World}, FP w g2 g13 g6 a0 j x v n W → IsS69 w W g13 a0 (j : Int) false
  | 0, _, h => (FX.f h).rd
  | _ + 1, _, h => (FX.f h).rd
theorem firstV_none {a0 : ByteArray} (hs : ¬ 1000000 < a0.size) (h : rdV a0 17 0 = none) : firstV a0 = (0, 0, ⟨#[]⟩, [], 0, 2) := by unfold firstV; rw [if_neg hs, h]
theorem firstV_some {a0 : ByteArray} {x : S32} {i : Nat} (hs : ¬ 1000000 < a0.size) (h : rdV a0 17 0 = some (x, i)) : firstV a0 = (x.f0, x.f1, x.f2, x.f3, (i : Int), 0) := by unfold firstV; rw [if_neg hs, h]; cases x; rfl
set_option maxHeartbeats 8000000 in
set_option maxRecDepth 100000 in
theorem firstC (a0 : ByteArray) (w : World) : Calls Tryd.prog 20 #[.string a0] w (FQ w (firstV a0)) := by
  by_cases hs : 1000000 < a0.size
  · have hd1 : decide (1000000 < (a0.size : Int)) = true := decide_eq_true (by omega)
    have hd2 : decide (1000000 < a0.size) = true := decide_eq_true hs
    have HE := Aside0.mk (show firstV a0 = (0, 0, ⟨#[]⟩, [], 0, 7) by unfold firstV; rw [if_pos hs])
    go_enter Tryd.func20, Tryd.ntmps20
    go_wp2_with (first | ((with_reducible refine gate_dst (N := 2) rfl ?_); refine box_event ?hg (N := 2) ?hd (cs := #[.int .i64 0, .int .i64 0, .string (⟨#[]⟩ : ByteArray), .slice none 0 0]) (t := 32) ?hr ?_; (case hd => rfl); (case hg => rfl); (case hr => first | (go_simp; done) | (go_simp; rfl)); intro g2 hg w2 hbox hb; have HG2 := Aside0.mk (fresh0 (w := w) hg); have HB2 := Aside0.mk hbox; have HL2 := Aside0.mk (new0 (w := w) hb); clear hb hbox hg; obtain ⟨hc_2_0, hc_2_1, hc_2_2, hc_2_3, hf_2_0, hf_2_1, hf_2_2, hf_2_3⟩ := c4 HB2.out))
    have hb := st4_put HB2.out (.int .i64 0) (.int .i64 0) (.string (⟨#[]⟩ : ByteArray)) (.slice none 0 0)
    refine bodyPost_ret (results_ctt rfl _ _ g2 32 #[.int .i64 0, .int .i64 0, .string (⟨#[]⟩ : ByteArray), .slice none 0 0] (0, 0) _ rfl (hb) Tryd.underlying32 rfl (by kernel_rfl)) rfl ?_
    exact FQ.of (0, 0, ⟨#[]⟩, [], 0, 7) HE.out (Kd.R_nil _ _ _ _ _) (st4_B HL2.out HG2.out _ _ _ _)
  · have hd1 : decide (1000000 < (a0.size : Int)) = false := decide_eq_false (by omega)
    have hd2 : decide (1000000 < a0.size) = false := decide_eq_false hs
    have HE := Aside0.mk hs
    replace hs : a0.size ≤ 1000000 := by omega
    go_enter Tryd.func20, Tryd.ntmps20
    go_wp2_with (first | ((with_reducible refine gate_dst (N := 2) rfl ?_); refine box_event ?hg (N := 2) ?hd (cs := #[.int .i64 0, .int .i64 0, .string (⟨#[]⟩ : ByteArray), .slice none 0 0]) (t := 32) ?hr ?_; (case hd => rfl); (case hg => rfl); (case hr => first | (go_simp; done) | (go_simp; rfl)); intro g2 hg w2 hbox hb; have HG2 := Aside0.mk (fresh0 (w := w) hg); have HB2 := Aside0.mk hbox; have HL2 := Aside0.mk (new0 (w := w) hb); clear hb hbox hg; obtain ⟨hc_2_0, hc_2_1, hc_2_2, hc_2_3, hf_2_0, hf_2_1, hf_2_2, hf_2_3⟩ := c4 HB2.out) | ((with_reducible refine gate_dst (N := 13) rfl ?_); refine box_event ?hg (N := 13) ?hd (cs := #[.string a0, .int .i64 0, .bool false]) (t := 69) ?hr ?_; (case hd => rfl); (case hg => rfl); (case hr => first | (go_simp; done) | (go_simp; rfl)); intro g13 hg w3 hbox hb; have HS := Aside0.mk (FW.new (j := ((0 : Nat) : Int)) HB2.out HG2.out HL2.out hg hb hbox); clear hb hbox hg HB2 HL2 HG2; (try clear hc_2_0 hc_2_1 hc_2_2 hc_2_3 hf_2_0 hf_2_1 hf_2_2 hf_2_3); (try clear hc_13_0 hc_13_1 hc_13_2 hf_13_0 hf_13_1 hf_13_2); (try clear hc_6_0 hc_6_1 hc_6_2 hc_6_3 hf_6_0 hf_6_1 hf_6_2 hf_6_3)) | ((with_reducible refine gate_callee (f := 38) rfl ?_); refine goesL_ (some 15) rfl rfl Tryd.func38 (by kernel_rfl) rfl #[.pointer (some ⟨g13, 0, none⟩), .int .i64 0] rfl (by (try simp only [List.map_toArray, List.map_cons, List.map_nil]); first | done | rfl) ?_; (with_reducible refine (valAll a0 hs 17 (by omega) (by omega) 0 g13 w _ 0 (by omega) (by exact (FW.lift HS.out).rd) (by exact (FW.lift HS.out).below) (Nat.zero_le _)).mono ?_); rintro e w4 ⟨x, v, j, bad, rfl, hv, hI, hBl, hK, hq1, hq2⟩; refine ⟨_, rfl, ?_⟩; have HV := Aside0.mk (FW.own (FW.lift HS.out) hv); have HS1 := Aside0.mk ((FW.lift HS.out).call hI hBl hK); have HQ1 := Aside0.mk hq1; have HQ2 := Aside0.mk hq2; clear HS hv hI hBl hK hq1 hq2; have HS := HS1; clear HS1; obtain ⟨A, c, rfl⟩ := Kd.R_slice HV.out) | ((with_reducible refine gate_dst (N := 6) rfl ?_); refine box_event ?hg (N := 6) ?hd (cs := #[.int .i64 0, .int .i64 0, .string (⟨#[]⟩ : ByteArray), .slice none 0 0]) (t := 32) ?hr ?_; (case hd => rfl); (case hg => rfl); (case hr => first | (go_simp; done) | (go_simp; rfl)); intro g6 hg w5 hbox hb; have HX := Aside0.mk (FX.new HS.out HV.out hg hb hbox); clear hb hbox hg HS HV; obtain ⟨hc_6_0, hc_6_1, hc_6_2, hc_6_3, hf_6_0, hf_6_1, hf_6_2, hf_6_3⟩ := c4 HX.out.b6) | ((with_reducible refine gate_store (t := 32) (p := 6) rfl ?_); refine store_event (t := 32) (p := 6) (v := ?vo) (w1 := ((((w5.setCell ⟨g6, 0, none⟩ (.int .i64 x.f0)).setCell ⟨g6, 1, none⟩ (.int .i64 x.f1)).setCell ⟨g6, 2, none⟩ (.string x.f2)).setCell ⟨g6, 3, none⟩ (.slice A x.f3.length c))) ?hg ?ho ?hn ?hr ?_; (case ho => rfl); (case hg => rfl); (case hn => rfl); (case hr => first | (go_simp; done) | (go_simp; rfl)); intro w6 hw; have HX1 := Aside0.mk (FX.store6 HX.out (.int .i64 x.f0) (.int .i64 x.f1) (.string x.f2) (.slice A x.f3.length c)); rw [← hw] at HX1; clear HX hw; (try clear hc_2_0 hc_2_1 hc_2_2 hc_2_3 hf_2_0 hf_2_1 hf_2_2 hf_2_3); (try clear hc_13_0 hc_13_1 hc_13_2 hf_13_0 hf_13_1 hf_13_2); (try clear hc_6_0 hc_6_1 hc_6_2 hc_6_3 hf_6_0 hf_6_1 hf_6_2 hf_6_3); have HX := HX1; clear HX1; obtain ⟨hc_2_0, hc_2_1, hc_2_2, hc_2_3, hf_2_0, hf_2_1, hf_2_2, hf_2_3⟩ := c4 HX.out.f.b2; obtain ⟨hc_13_0, hc_13_1, hc_13_2, hf_13_0, hf_13_1, hf_13_2⟩ := c3 HX.out.f.rd.1; obtain ⟨hc_6_0, hc_6_1, hc_6_2, hc_6_3, hf_6_0, hf_6_1, hf_6_2, hf_6_3⟩ := c4 HX.out.b6; have hn_26 := HX.out.n26; have hn_62 := hn_26.symm; have hn_136 := HX.out.n13; have hn_613 := hn_136.symm; have hn_213 := HX.out.f.ne; have hn_132 := hn_213.symm))
    · have hbd : bad = true := by assumption
      subst hbd
      try go_wp2
      have HX2 := FX.store2 HX.out (.int .i64 0) (.int .i64 0) (.string (⟨#[]⟩ : ByteArray)) (.slice none 0 0)
      refine bodyPost_ret (results_ctt rfl _ _ g2 32 #[.int .i64 0, .int .i64 0, .string (⟨#[]⟩ : ByteArray), .slice none 0 0] (0, 0) _ rfl (HX2.f.b2) Tryd.underlying32 rfl (by kernel_rfl)) rfl ?_
      exact FQ.of (0, 0, ⟨#[]⟩, [], 0, 2) (firstV_none HE.out (by first | exact HQ2.out rfl | exact HQ2.out trivial)) (Kd.R_nil _ _ _ _ _) HX2.f.below
    · have hbd : bad = false := by assumption
      subst hbd
      have HQ3 := Aside0.mk (HQ1.out rfl).1
      clear HQ1 HQ2
      try go_wp2
      obtain ⟨XF, hXF⟩ : ∃ XF : Nat → Option Value, XF = fun k => (([some (.agg #[.int .i64 x.f0, .int .i64 x.f1, .string x.f2, .slice A x.f3.length c]), some (.pointer (some ⟨g13, 0, none⟩)), some (.pointer (some ⟨g13, 0, none⟩)), some (.pointer (some ⟨g13, 1, none⟩)), some (.int .i64 (j : Int)), none, some (.int .i64 (j : Int)), some (.int .i64 0)] : List (Option Value))[k]?).join := ⟨_, rfl⟩
      have X0 : XF 0 = some (.agg #[.int .i64 x.f0, .int .i64 x.f1, .string x.f2, .slice A x.f3.length c]) := by rw [hXF]; rfl
      have X1 : XF 1 = some (.pointer (some ⟨g13, 0, none⟩)) := by rw [hXF]; rfl
      have X2 : XF 2 = some (.pointer (some ⟨g13, 0, none⟩)) := by rw [hXF]; rfl
      have X3 : XF 3 = some (.pointer (some ⟨g13, 1, none⟩)) := by rw [hXF]; rfl
      have X4 : XF 4 = some (.int .i64 (j : Int)) := by rw [hXF]; rfl
      have X5 : XF 5 = none := by rw [hXF]; rfl
      have X6 : XF 6 = some (.int .i64 (j : Int)) := by rw [hXF]; rfl
      have X7 : XF 7 = some (.int .i64 0) := by rw [hXF]; rfl
      clear hXF
      refine wp_region_noPanic ?_
      refine DR.wp_region_inv [some 21, some 22, some 23, some 24, some 25, none, some 3, some 4] (JC XF [5] [] (fun n vals W => FP w g2 g13 g6 a0 j x (.slice A x.f3.length c) n W)) (by kernel_rfl) (by kernel_rfl) (by kernel_rfl) (by kernel_rfl) (fun vals => JC.init (FX.lift HX.out)) ?step ?fin
      case step =>
        intro jx o_ ls vals a0_ w13 ho hj hpre hS hJ
        have hjlt : jx < 8 := (Array.getElem?_eq_some_iff.1 ho).1
        obtain rfl | rfl | rfl | rfl | rfl | rfl | rfl | rfl : jx = 0 ∨ jx = 1 ∨ jx = 2 ∨ jx = 3 ∨ jx = 4 ∨ jx = 5 ∨ jx = 6 ∨ jx = 7 := by clear hpre; omega
        · cases ho
          have e6 : a0_.tmps[6]?.getD undef = .pointer (some ⟨g6, 0, none⟩) := (DR.eval_get a0_ _).trans (hS.out' rfl rfl)
          obtain ⟨nx, _, _, hph⟩ := hJ.ph
          have hb6 := FP.b6 hph
          have hc6_0 : w13.cell? ⟨g6, 0, none⟩ = some (.int .i64 x.f0) := (blk_cell hb6 0).trans rfl
          have hc6_1 : w13.cell? ⟨g6, 1, none⟩ = some (.int .i64 x.f1) := (blk_cell hb6 1).trans rfl
          have hc6_2 : w13.cell? ⟨g6, 2, none⟩ = some (.string x.f2) := (blk_cell hb6 2).trans rfl
          have hc6_3 : w13.cell? ⟨g6, 3, none⟩ = some (.slice A x.f3.length c) := (blk_cell hb6 3).trans rfl
          refine DR.wpOp_run (v := .agg #[.int .i64 x.f0, .int .i64 x.f1, .string x.f2, .slice A x.f3.length c]) (w' := w13) rfl rfl ?_ ⟨_, rfl, hJ.value X0 (by decide) (by simp []) (fun _ h => h)⟩
          clear hS hJ hpre
          first | (go_simp; done) | (go_simp; rfl)
        · cases ho
          have e5 : a0_.tmps[5]?.getD undef = .pointer (some ⟨g13, 0, none⟩) := (DR.eval_get a0_ _).trans (hS.out' rfl rfl)
          refine DR.wpOp_run (v := .pointer (some ⟨g13, 0, none⟩)) (w' := w13) rfl rfl ?_ ⟨_, rfl, hJ.value X1 (by decide) (by simp []) (fun _ h => h)⟩
          clear hS hJ hpre
          first | (go_simp; done) | (go_simp; rfl)
        · cases ho
          have p1 : ls 1 = true := hpre { on := 1, ground := Ground.data } (by simp) rfl
          have e22 : a0_.tmps[22]?.getD undef = .pointer (some ⟨g13, 0, none⟩) := (DR.eval_get a0_ _).trans ((hS.on 1 22 rfl p1).trans (hJ.val 1 _ X1 p1))
          refine DR.wpOp_run (v := .pointer (some ⟨g13, 0, none⟩)) (w' := w13) rfl rfl ?_ ⟨_, rfl, hJ.value X2 (by decide) (by simp [p1]) (fun _ h => h)⟩
          clear hS hJ hpre
          first | (go_simp; done) | (go_simp; rfl)
        · cases ho
          have p2 : ls 2 = true := hpre { on := 2, ground := Ground.data } (by simp) rfl
          have e23 : a0_.tmps[23]?.getD undef = .pointer (some ⟨g13, 0, none⟩) := (DR.eval_get a0_ _).trans ((hS.on 2 23 rfl p2).trans (hJ.val 2 _ X2 p2))
          refine DR.wpOp_run (v := .pointer (some ⟨g13, 1, none⟩)) (w' := w13) rfl rfl ?_ ⟨_, rfl, hJ.value X3 (by decide) (by simp [p2]) (fun _ h => h)⟩
          clear hS hJ hpre
          first | (go_simp; done) | (go_simp; rfl)
        · cases ho
          have p3 : ls 3 = true := hpre { on := 3, ground := Ground.data } (by simp) rfl
          have e24 : a0_.tmps[24]?.getD undef = .pointer (some ⟨g13, 1, none⟩) := (DR.eval_get a0_ _).trans ((hS.on 3 24 rfl p3).trans (hJ.val 3 _ X3 p3))
          obtain ⟨nx, _, _, hph⟩ := hJ.ph
          have hrd := (FP.rd hph).1
          have hc13 := cellS69_1 hrd
          refine DR.wpOp_run (v := .int .i64 (j : Int)) (w' := w13) rfl rfl ?_ ⟨_, rfl, hJ.value X4 (by decide) (by simp [p3]) (fun _ h => h)⟩
          clear hS hJ hpre
          first | (go_simp; done) | (go_simp; rfl)
        · cases ho
          have p0 : ls 0 = true := hpre { on := 0, ground := Ground.data } (by simp) rfl
          have e21 : a0_.tmps[21]?.getD undef = .agg #[.int .i64 x.f0, .int .i64 x.f1, .string x.f2, .slice A x.f3.length c] := (DR.eval_get a0_ _).trans ((hS.on 0 21 rfl p0).trans (hJ.val 0 _ X0 p0))
          have e2 : a0_.tmps[2]?.getD undef = .pointer (some ⟨g2, 0, none⟩) := (DR.eval_get a0_ _).trans (hS.out' rfl rfl)
          have hP0 : FX w w13 g2 g13 g6 a0 (j : Int) false #[.int .i64 0, .int .i64 0, .string (⟨#[]⟩ : ByteArray), .slice none 0 0] #[.int .i64 x.f0, .int .i64 x.f1, .string x.f2, .slice A x.f3.length c] (.slice A x.f3.length c) x.f3 := hJ.at_ (i := 5) (n := 0) rfl hj (.inl rfl)
          have hc2_0 : w13.cell? ⟨g2, 0, none⟩ = some (.int .i64 0) := (blk_cell hP0.f.b2 0).trans rfl; have hf2_0 := blk_frozen hP0.f.b2 0
          have hc2_1 : w13.cell? ⟨g2, 1, none⟩ = some (.int .i64 0) := (blk_cell hP0.f.b2 1).trans rfl; have hf2_1 := blk_frozen hP0.f.b2 1
          have hc2_2 : w13.cell? ⟨g2, 2, none⟩ = some (.string (⟨#[]⟩ : ByteArray)) := (blk_cell hP0.f.b2 2).trans rfl; have hf2_2 := blk_frozen hP0.f.b2 2
          have hc2_3 : w13.cell? ⟨g2, 3, none⟩ = some (.slice none 0 0) := (blk_cell hP0.f.b2 3).trans rfl; have hf2_3 := blk_frozen hP0.f.b2 3
          refine DR.wpOp_skip (w' := ((((w13.setCell ⟨g2, 0, none⟩ (.int .i64 x.f0)).setCell ⟨g2, 1, none⟩ (.int .i64 x.f1)).setCell ⟨g2, 2, none⟩ (.string x.f2)).setCell ⟨g2, 3, none⟩ (.slice A x.f3.length c))) rfl rfl ?_ ⟨_, rfl, hJ.event (i := 5) (n := 0) rfl (by decide) X5 hj (.inl rfl) (by simp) (FX.store2 hP0 _ _ _ _)⟩
          clear hS hJ hpre
          first | (go_simp; done) | (go_simp; rfl)
        · cases ho
          have p4 : ls 4 = true := hpre { on := 4, ground := Ground.data } (by simp) rfl
          have e25 : a0_.tmps[25]?.getD undef = .int .i64 (j : Int) := (DR.eval_get a0_ _).trans ((hS.on 4 25 rfl p4).trans (hJ.val 4 _ X4 p4))
          refine DR.wpOp_run (v := .int .i64 (j : Int)) (w' := w13) rfl rfl ?_ ⟨_, rfl, hJ.value X6 (by decide) (by simp [p4]) (fun _ h => h)⟩
          clear hS hJ hpre
          first | (go_simp; done) | (go_simp; rfl)
        · cases ho
          refine DR.wpOp_run (v := .int .i64 0) (w' := w13) rfl rfl ?_ ⟨_, rfl, hJ.value X7 (by decide) (by simp []) (fun _ h => h)⟩
          clear hS hJ hpre
          first | (go_simp; done) | (go_simp; rfl)
      case fin =>
        intro vals w13 hJ
        have v0 := hJ.val 0 _ X0 rfl
        have v1 := hJ.val 1 _ X1 rfl
        have v2 := hJ.val 2 _ X2 rfl
        have v3 := hJ.val 3 _ X3 rfl
        have v4 := hJ.val 4 _ X4 rfl
        have v6 := hJ.val 6 _ X6 rfl
        have v7 := hJ.val 7 _ X7 rfl
        have hP := hJ.fin (by decide)
        clear hJ X0 X1 X2 X3 X4 X5 X6 X7
        refine NoPanic.normal ?_
        simp only [DR.putAll, v0, v1, v2, v3, v4, v6, v7]
        simp only [Act.put, List.setIfInBounds_toArray, List.set_cons_zero, List.set_cons_succ]
        replace hP : FX w w13 g2 g13 g6 a0 (j : Int) false #[.int .i64 x.f0, .int .i64 x.f1, .string x.f2, .slice A x.f3.length c] #[.int .i64 x.f0, .int .i64 x.f1, .string x.f2, .slice A x.f3.length c] (.slice A x.f3.length c) x.f3 := hP
        go_wp2
        refine bodyPost_ret (results_ctt rfl _ _ g2 32 #[.int .i64 x.f0, .int .i64 x.f1, .string x.f2, .slice A x.f3.length c] (0, 0) _ rfl (hP.f.b2) Tryd.underlying32 rfl (by kernel_rfl)) rfl ?_
        exact FQ.of (x.f0, x.f1, x.f2, x.f3, (j : Int), 0) (firstV_some HE.out HQ3.out) (Kd.R_mono hP.own (fun _ _ => trivial)) hP.f.below
theorem codec_First.calls (a0 : ByteArray) (r1 r2 : Int) (r3 : ByteArray) (r4 : List S32) (r5 r6 : Int) (w : World) (h : codec_First.f a0 = some (r1, r2, r3, r4, r5, r6)) :
    Calls Tryd.prog 20 #[.string a0] w fun e w' => ∃ v3_ : Value, e = .returned (.tuple #[.agg #[.int .i64 r1, .int .i64 r2, .string r3, v3_], .int .i64 r5, .int .i64 r6]) ∧ Kd.R k32 32 w' w.heap.size (fun _ => True) v3_ r4 ∧ Below w.heap.size w w' := by
  have h2 := firstC a0 w
  rw [show firstV a0 = _ from Option.some.inj h] at h2
  exact h2
end Go.Proofs.YtcmphojichgfeaaDoor.QC
