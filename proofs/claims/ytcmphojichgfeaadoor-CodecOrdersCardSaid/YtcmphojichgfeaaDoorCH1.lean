/- The codec seat: possible, with the library's ContainsFunc and IndexFunc, walked by hand. -/
import Derived.Test.YtcmphojichgfeaaDoorCL0
namespace Go.Proofs.YtcmphojichgfeaaDoor.QC
open Go.RowKit Go.Proofs.YtcmphojichgfeaaDoorW.PrintWords Go.Proofs.YtcmphojichgfeaaDoorW.PrintLast Go.Proofs.YtcmphojichgfeaaDoorW.PrintMore
set_option linter.unusedVariables false
set_option linter.unusedSimpArgs false
attribute [local go_sem] max2_int min2_int max_two min_two
theorem posL_take {l : List S32} {i : Nat} (h : i < l.length) (hp : posL (l.take i) = true) (hx : posV l[i] = true) : posL (l.take (i + 1)) = true := by
  induction l generalizing i with
  | nil => simp at h
  | cons y l ih =>
    cases i with
    | zero => simp [posL] at hx ⊢; exact hx
    | succ i =>
      simp only [List.take_succ_cons, posL, Bool.and_eq_true] at hp ⊢
      exact ⟨hp.1, ih (by simpa using h) hp.2 (by simpa using hx)⟩
theorem posL_not {l : List S32} {i : Nat} (h : i < l.length) (hx : posV l[i] = false) : posL l = false := by
  induction l generalizing i with
  | nil => simp at h
  | cons y l ih =>
    cases i with
    | zero => simp at hx; simp [posL, hx]
    | succ i =>
      have := ih (i := i) (by simpa using h) (by simpa using hx)
      simp [posL, this]
abbrev OkPos (a b : Int) (s : ByteArray) (l : List S32) : Prop := ∀ (A : Option Addr) (c : Nat) (w : World), Kd.C k32 w A l.length l → l.length ≤ c →
  Calls Tryd.prog 33 #[.agg #[.int .i64 a, .int .i64 b, .string s, .slice A l.length c]] w fun e w' => e = .returned (.bool (pos a b s l)) ∧ Below w.heap.size w w'
theorem closC (a b : Int) (s : ByteArray) (l : List S32) (ih : OkPos a b s l) (A : Option Addr) (c : Nat) (w : World) (hr : Kd.C k32 w A l.length l) (hc : l.length ≤ c) :
    Calls Tryd.prog 53 #[.agg #[.int .i64 a, .int .i64 b, .string s, .slice A l.length c]] w fun e w' => e = .returned (.bool (!pos a b s l)) ∧ Below w.heap.size w w' := by
  have HB := Aside0.mk (Below.refl w.heap.size w)
  have HR := Aside0.mk hr
  have HC := Aside0.mk hc
  clear hr hc
  have IH := Aside0.mk ih
  clear ih
  go_enter Tryd.func53, Tryd.ntmps53
  go_wp2_with (first | ((with_reducible refine gate_dst (N := 1) rfl ?_); refine box_event ?hg (N := 1) ?hd (cs := #[.int .i64 a, .int .i64 b, .string s, .slice A l.length c]) (t := 32) ?hr ?_; (case hd => rfl); (case hg => rfl); (case hr => first | (go_simp; done) | (go_simp; rfl)); intro g1 hg w1 hbox hb; have GE_g1 : w.heap.size ≤ g1 := (by rw [hg]; exact (below_size (blL HB.out))); have mHR_ := Aside0.mk (cbL HR.out hb); have nB_ := Aside0.mk (bbL HB.out hb); clear HR HB; have HR := mHR_; have HB := nB_; clear  nB_ mHR_; have B_g1 := Aside0.mk hbox; clear hb hbox hg; have hc_g1_0 : w1.cell? ⟨g1, 0, none⟩ = some (.int .i64 a) := (blk_cell B_g1.out 0).trans rfl; have hf_g1_0 := blk_frozen B_g1.out 0; have hc_g1_1 : w1.cell? ⟨g1, 1, none⟩ = some (.int .i64 b) := (blk_cell B_g1.out 1).trans rfl; have hf_g1_1 := blk_frozen B_g1.out 1; have hc_g1_2 : w1.cell? ⟨g1, 2, none⟩ = some (.string s) := (blk_cell B_g1.out 2).trans rfl; have hf_g1_2 := blk_frozen B_g1.out 2; have hc_g1_3 : w1.cell? ⟨g1, 3, none⟩ = some (.slice A l.length c) := (blk_cell B_g1.out 3).trans rfl; have hf_g1_3 := blk_frozen B_g1.out 3) | ((with_reducible refine gate_callee (f := 33) rfl ?_); (try (refine gate_guard (by rfl) ?_; dsimp only)); refine goesL_ (some 4) rfl rfl Tryd.func33 (by kernel_rfl) rfl #[.agg #[.int .i64 a, .int .i64 b, .string s, .slice A l.length c]] rfl (by (try simp only [List.map_toArray, List.map_cons, List.map_nil]); first | done | rfl) ?_; (with_reducible refine (IH.out _ _ _ HR.out HC.out).mono ?_); rintro e w2 ⟨rfl, hb⟩; refine ⟨_, rfl, ?_⟩; have n0_ := Aside0.mk (bL B_g1.out hb); have mHR_ := Aside0.mk (cbL HR.out hb); have nB_ := Aside0.mk (bbL HB.out hb); clear B_g1 HR HB; have B_g1 := n0_; have HR := mHR_; have HB := nB_; clear n0_ nB_ mHR_; clear hb))
  go_ret
  exact ⟨rfl, (by repeat (first | (with_reducible first | exact HB.out | apply below_alloc | apply pw_below_drewN | apply below_drew1 | apply below_drew) | exact HB.out))⟩
set_option maxHeartbeats 4000000 in
theorem idxC (l : List S32) (ih : ∀ y ∈ l, OkPos y.f0 y.f1 y.f2 y.f3) (A : Option Addr) (c : Nat) (w : World) (hr : Kd.C k32 w A l.length l) (hc : l.length ≤ c) :
    Calls Tryd.prog 70 #[.slice A l.length c, .func (.func 53) #[] #[]] w fun e w' => (∃ r : Int, e = .returned (.int .i64 r) ∧ (0 ≤ r ↔ posL l = false)) ∧ Below w.heap.size w w' := by
  have HB := Aside0.mk (Below.refl w.heap.size w)
  have HR := Aside0.mk hr
  have HC := Aside0.mk hc
  clear hr hc
  have IH := Aside0.mk ih
  have hmax := C_max HR.out
  clear ih
  go_enter Tryd.func70, Tryd.ntmps70
  go_wp2
  go_loopg [8] l.length (fun kq v8 w' => ∃ i : Nat, v8 = .int .i64 i ∧ Hid (i + kq = l.length) ∧ Aside0 (posL (l.take i) = true) ∧ Aside0 (Below w.heap.size w w'))
  case atStart => exact ⟨0, rfl, by simp [Hid], ⟨by simp [posL]⟩, HB⟩
  case round =>
    obtain ⟨i, rfl, HI, HP, HB⟩ := hrel
    cases gk with
    | zero =>
      have hi := HI.out
      have hlss : decide ((i : Int) < (l.length : Int)) = false := decide_eq_false (by omega)
      go_wp2
      go_ret
      refine ⟨⟨-1, rfl, ?_⟩, (by repeat (first | (with_reducible first | exact HB.out | apply below_alloc | apply pw_below_drewN | apply below_drew1 | apply below_drew) | exact HB.out))⟩
      have hp := HP.out
      rw [List.take_of_length_le (by omega)] at hp
      simp [hp]
    | succ gn =>
      have hi := HI.out
      have hlt : i < l.length := by omega
      have hlss : decide ((i : Int) < (l.length : Int)) = true := decide_eq_true (by omega)
      have h0 : (0 : Int) ≤ (i : Int) := by omega
      have h1 : (i : Int) < (l.length : Int) := by omega
      obtain ⟨ad, A3, c3, rfl, a0, a1, a2, a3, hc3, hC3⟩ := at_T32 (Kd.C_below HR.out HB.out) (i : Int) h0 h1
      rw [rd_get l i hlt] at a0 a1 a2 a3 hc3 hC3
      simp only [Int.toNat_natCast] at a0 a1 a2 a3
      have hw1 : IntKind.i64.wrap ((i : Int) + 1) = (i : Int) + 1 := wrap_i64 (by omega) (by omega)
      have IHi := Aside0.mk (IH.out l[i] (List.getElem_mem hlt))
      have HC3 := Aside0.mk hc3
      have HR3 := Aside0.mk hC3
      clear hc3 hC3
      by_cases hp : posV l[i] = true
      · have hpd : (!pos l[i].f0 l[i].f1 l[i].f2 l[i].f3) = false := by
          rw [pos_eta, hp]; rfl
        go_wp2_with (first | ((with_reducible refine gate_dst (N := 16) rfl ?_); refine goesT_ (some 16) rfl rfl (f := 53) Tryd.func53 (by kernel_rfl) rfl #[.agg #[.int .i64 l[i].f0, .int .i64 l[i].f1, .string l[i].f2, .slice A3 l[i].f3.length c3]] rfl rfl (by (try simp only [List.map_toArray, List.map_cons, List.map_nil]); first | done | rfl) ?_; (with_reducible refine (closC _ _ _ _ IHi.out _ _ _ HR3.out HC3.out).mono ?_); rintro e w2 ⟨rfl, hb⟩; rw [hpd]; refine ⟨_, rfl, ?_⟩; have mHR3_ := Aside0.mk (cbL HR3.out hb); have nB_ := Aside0.mk (bbL HB.out hb); clear HR3 HB; have HR3 := mHR3_; have HB := nB_; clear  nB_ mHR3_; clear hb))
        go_roundg gn
        case measure => omega
        case rel => exact ⟨i + 1, (by first | rfl | (simp; done) | (simp [*]; done)), (by simp only [Hid]; omega), ⟨posL_take hlt HP.out hp⟩, HB⟩
      · have hp' : posV l[i] = false := by simpa using hp
        have hpd : (!pos l[i].f0 l[i].f1 l[i].f2 l[i].f3) = true := by
          rw [pos_eta, hp']; rfl
        go_wp2_with (first | ((with_reducible refine gate_dst (N := 16) rfl ?_); refine goesT_ (some 16) rfl rfl (f := 53) Tryd.func53 (by kernel_rfl) rfl #[.agg #[.int .i64 l[i].f0, .int .i64 l[i].f1, .string l[i].f2, .slice A3 l[i].f3.length c3]] rfl rfl (by (try simp only [List.map_toArray, List.map_cons, List.map_nil]); first | done | rfl) ?_; (with_reducible refine (closC _ _ _ _ IHi.out _ _ _ HR3.out HC3.out).mono ?_); rintro e w2 ⟨rfl, hb⟩; rw [hpd]; refine ⟨_, rfl, ?_⟩; have mHR3_ := Aside0.mk (cbL HR3.out hb); have nB_ := Aside0.mk (bbL HB.out hb); clear HR3 HB; have HR3 := mHR3_; have HB := nB_; clear  nB_ mHR3_; clear hb))
        go_ret
        refine ⟨⟨i, rfl, ?_⟩, (by repeat (first | (with_reducible first | exact HB.out | apply below_alloc | apply pw_below_drewN | apply below_drew1 | apply below_drew) | exact HB.out))⟩
        have := posL_not hlt hp'
        simp [this]
theorem conC (l : List S32) (ih : ∀ y ∈ l, OkPos y.f0 y.f1 y.f2 y.f3) (A : Option Addr) (c : Nat) (w : World) (hr : Kd.C k32 w A l.length l) (hc : l.length ≤ c) :
    Calls Tryd.prog 52 #[.slice A l.length c, .func (.func 53) #[] #[]] w fun e w' => e = .returned (.bool (!posL l)) ∧ Below w.heap.size w w' := by
  have HB := Aside0.mk (Below.refl w.heap.size w)
  have HR := Aside0.mk hr
  have HC := Aside0.mk hc
  clear hr hc
  have IH := Aside0.mk ih
  clear ih
  go_enter Tryd.func52, Tryd.ntmps52
  go_wp2_with (first | ((with_reducible refine gate_callee (f := 70) rfl ?_); (try (refine gate_guard (by rfl) ?_; dsimp only)); refine goesL_ (some 7) rfl rfl Tryd.func70 (by kernel_rfl) rfl #[.slice A l.length c, .func (.func 53) #[] #[]] rfl (by (try simp only [List.map_toArray, List.map_cons, List.map_nil]); first | done | rfl) ?_; (with_reducible refine (idxC l IH.out A c _ HR.out HC.out).mono ?_); rintro e w2 ⟨⟨r, rfl, hr0⟩, hb⟩; refine ⟨_, rfl, ?_⟩; have mHR_ := Aside0.mk (cbL HR.out hb); have nB_ := Aside0.mk (bbL HB.out hb); clear HR HB; have HR := mHR_; have HB := nB_; clear  nB_ mHR_; clear hb))
  have hd : decide (0 ≤ r) = !posL l := by
    cases hp : posL l with
    | true => rw [hp] at hr0; simpa using hr0
    | false => rw [hp] at hr0; simpa using hr0
  go_ret
  exact ⟨rfl, (by repeat (first | (with_reducible first | exact HB.out | apply below_alloc | apply pw_below_drewN | apply below_drew1 | apply below_drew) | exact HB.out))⟩
set_option maxHeartbeats 4000000 in
theorem posC (a b : Int) (s : ByteArray) (l : List S32) (ih : ∀ y ∈ l, OkPos y.f0 y.f1 y.f2 y.f3) (A : Option Addr) (c : Nat) (w : World) (hr : Kd.C k32 w A l.length l) (hc : l.length ≤ c) :
    Calls Tryd.prog 33 #[.agg #[.int .i64 a, .int .i64 b, .string s, .slice A l.length c]] w fun e w' => e = .returned (.bool (pos a b s l)) ∧ Below w.heap.size w w' := by
  have HB := Aside0.mk (Below.refl w.heap.size w)
  have HR := Aside0.mk hr
  have HC := Aside0.mk hc
  clear hr hc
  have IH := Aside0.mk ih
  clear ih
  obtain ⟨R, hR⟩ : ∃ R, R = pos a b s l := ⟨_, rfl⟩
  rw [← hR]
  have HRR := Aside0.mk hR
  clear hR
  go_enter Tryd.func33, Tryd.ntmps33
  go_wp2_with (first | ((with_reducible refine gate_dst (N := 1) rfl ?_); refine box_event ?hg (N := 1) ?hd (cs := #[.int .i64 a, .int .i64 b, .string s, .slice A l.length c]) (t := 32) ?hr ?_; (case hd => rfl); (case hg => rfl); (case hr => first | (go_simp; done) | (go_simp; rfl)); intro g1 hg w1 hbox hb; have GE_g1 : w.heap.size ≤ g1 := (by rw [hg]; exact (below_size (blL HB.out))); have mHR_ := Aside0.mk (cbL HR.out hb); have nB_ := Aside0.mk (bbL HB.out hb); clear HR HB; have HR := mHR_; have HB := nB_; clear  nB_ mHR_; have B_g1 := Aside0.mk hbox; clear hb hbox hg; have hc_g1_0 : w1.cell? ⟨g1, 0, none⟩ = some (.int .i64 a) := (blk_cell B_g1.out 0).trans rfl; have hf_g1_0 := blk_frozen B_g1.out 0; have hc_g1_1 : w1.cell? ⟨g1, 1, none⟩ = some (.int .i64 b) := (blk_cell B_g1.out 1).trans rfl; have hf_g1_1 := blk_frozen B_g1.out 1; have hc_g1_2 : w1.cell? ⟨g1, 2, none⟩ = some (.string s) := (blk_cell B_g1.out 2).trans rfl; have hf_g1_2 := blk_frozen B_g1.out 2; have hc_g1_3 : w1.cell? ⟨g1, 3, none⟩ = some (.slice A l.length c) := (blk_cell B_g1.out 3).trans rfl; have hf_g1_3 := blk_frozen B_g1.out 3) | ((with_reducible refine gate_callee (f := 52) rfl ?_); (try (refine gate_guard (by rfl) ?_; dsimp only)); refine goesL_ (some 40) rfl rfl Tryd.func52 (by kernel_rfl) rfl #[.slice A l.length c, .func (.func 53) #[] #[]] rfl (by (try simp only [List.map_toArray, List.map_cons, List.map_nil]); first | done | rfl) ?_; (with_reducible refine (conC l IH.out A c _ HR.out HC.out).mono ?_); rintro e w2 ⟨rfl, hb⟩; refine ⟨_, rfl, ?_⟩; have n0_ := Aside0.mk (bL B_g1.out hb); have mHR_ := Aside0.mk (cbL HR.out hb); have nB_ := Aside0.mk (bbL HB.out hb); clear B_g1 HR HB; have B_g1 := n0_; have HR := mHR_; have HB := nB_; clear n0_ nB_ mHR_; clear hb))
  all_goals go_ret
  all_goals (refine ⟨?_, (by repeat (first | (with_reducible first | exact HB.out | apply below_alloc | apply pw_below_drewN | apply below_drew1 | apply below_drew) | exact HB.out))⟩; have hx := HRR.out; simp only [pos, posV] at hx; simp_all)
  all_goals exact len0 l
theorem posAll : ∀ (n : Nat) (x : S32), SizeOf.sizeOf x ≤ n → OkPos x.f0 x.f1 x.f2 x.f3
  | 0, x, h => absurd h (by cases x; simp only [S32.mk.sizeOf_spec]; omega)
  | n + 1, ⟨a, b, s, l⟩, h => fun A c w hr hc => posC a b s l (fun y hy => posAll n y (by have := size_mem hy a b s; omega)) A c w hr hc
/-! ### codec_possible: function 33, given by this seat -/
def codec_possible.f (a0_0 : Int) (a0_1 : Int) (a0_2 : ByteArray) (l0_3 : List (S32)) : Option Bool := some (pos a0_0 a0_1 a0_2 l0_3)
theorem codec_possible.calls (a0_0 : Int) (a0_1 : Int) (a0_2 : ByteArray) (A0_3 : Option Addr) (c0_3 : Nat) (l0_3 : List (S32)) (r : Bool) (w : World) (hr0_3 : Kd.C k32 w A0_3 l0_3.length l0_3) (hc0_3 : l0_3.length ≤ c0_3) (h : codec_possible.f a0_0 a0_1 a0_2 l0_3 = some r) :
    Calls Tryd.prog 33 #[.agg #[.int .i64 a0_0, .int .i64 a0_1, .string a0_2, .slice A0_3 l0_3.length c0_3]] w fun e w' => e = .returned (.bool r) ∧ Below w.heap.size w w' := by
  unfold codec_possible.f at h
  cases h
  exact posAll _ ⟨a0_0, a0_1, a0_2, l0_3⟩ (Nat.le_refl _) A0_3 c0_3 w hr0_3 hc0_3
end Go.Proofs.YtcmphojichgfeaaDoor.QC
