/- The codec seat: the law CodecDigests. Printed by a program of this seat out of the translation. -/
import Derived.Test.YtcmphojichgfeaaDoorCR6
import Derived.Test.YtcmphojichgfeaaDoorCH5
import Derived.Test.YtcmphojichgfeaaDoorCAw
namespace Go.Proofs.YtcmphojichgfeaaDoor.QC
open Go.RowKit Go.Proofs.YtcmphojichgfeaaDoorW.PrintWords Go.Proofs.YtcmphojichgfeaaDoorW.PrintLast Go.Proofs.YtcmphojichgfeaaDoorW.PrintMore
attribute [local go_sem] max2_int min2_int max_two min_two max_three min_three max_four min_four
set_option linter.unusedVariables false
set_option linter.unusedSimpArgs false

/-! ### gangsawlaw02_CodecDigests: function 9 -/
def gangsawlaw02_CodecDigests.f (k : Nat) (a0 : ByteArray) : Option (Bool) := (gangsawlaw02_awake.f).bind fun t463 => (if t463 = true then (if (a0.size : Int) > 1000 then (some true) else ((codec_Digest.f a0).bind fun t464 => ((gangsawref02_Digest.f k a0).bind fun t465 => (some (t464.toList == t465.toList))))) else (none))
theorem gangsawlaw02_CodecDigests.mono : ∀ a0 k, LeO (gangsawlaw02_CodecDigests.f k a0) (gangsawlaw02_CodecDigests.f (k + 1) a0) := by
  intro a0 k
  unfold gangsawlaw02_CodecDigests.f
  repeat' first
      | (with_reducible exact gangsawref02_Digest.mono _ _)
      | (with_reducible exact LeO.refl _)
      | (with_reducible exact LeO.none _)
      | (with_reducible refine LeO.ite ?_ ?_)
      | (with_reducible refine LeO.bind ?_ (fun _ => ?_))
      | exact gangsawref02_Digest.mono _ _
      | exact LeO.none _
      | refine LeO.ite ?_ ?_
      | refine LeO.bind ?_ (fun _ => ?_)
set_option maxHeartbeats 8000000 in
set_option maxRecDepth 100000 in
theorem gangsawlaw02_CodecDigests.calls (k : Nat) (a0 : ByteArray) (r : Bool) (w : World) (hG : GG w) (h : gangsawlaw02_CodecDigests.f k a0 = some r) :
    Calls Tryd.prog 9 #[.string a0] w fun e w' => e = .returned (.bool r) ∧ Below w.heap.size w w' := by
  have HB := Aside0.mk (Below.refl w.heap.size w)
  have HG := Aside0.mk hG
  clear hG
  have H : ((gangsawlaw02_awake.f).bind fun t463 => (if t463 = true then (if (a0.size : Int) > 1000 then (some true) else ((codec_Digest.f a0).bind fun t464 => ((gangsawref02_Digest.f k a0).bind fun t465 => (some (t464.toList == t465.toList))))) else (none))) = some r := h
  clear h
  replace H := Option.bind_eq_some_iff.mp H
  obtain ⟨t463, A20, H⟩ := H
  replace H : (if t463 = true then (if (a0.size : Int) > 1000 then (some true) else ((codec_Digest.f a0).bind fun t464 => ((gangsawref02_Digest.f k a0).bind fun t465 => (some (t464.toList == t465.toList))))) else (none)) = some r := H
  have A2 := Aside0.mk A20
  clear A20
  by_cases c3 : t463 = true
  · subst c3
    have H1 : (if (a0.size : Int) > 1000 then (some true) else ((codec_Digest.f a0).bind fun t464 => ((gangsawref02_Digest.f k a0).bind fun t465 => (some (t464.toList == t465.toList))))) = some r := by rw [if_pos rfl] at H; exact H
    clear H
    have H := H1
    clear H1
    by_cases c4 : (a0.size : Int) > 1000
    · rw [if_pos c4] at H
      have c4b0 : decide (1000 < (a0.size : Int)) = true := decide_eq_true c4
      have c4b1 : decide (1000 < a0.size) = true := decide_eq_true (by omega)
      clear c4
      obtain rfl := Option.some.inj H
      go_enter Tryd.func9, Tryd.ntmps9
      go_wp2_with (first | ((with_reducible refine gate_callee (f := 11) rfl ?_); refine goesL_ (some 3) rfl rfl Tryd.func11 (by kernel_rfl) rfl #[] rfl (by (try simp only [List.map_toArray, List.map_cons, List.map_nil]); first | done | rfl | (simp only [List.length_drop, List.length_take]; rfl)) ?_; (with_reducible refine (gangsawlaw02_awake.calls  true _ ?side1 A2.out).mono ?_); (case side1 => exact GG.mono HG.out (by repeat (first | (with_reducible first | exact HB.out | apply below_alloc | apply pw_below_drewN | apply below_drew1) | exact HB.out))); rintro e w5 ⟨rfl, hb⟩; refine ⟨_, rfl, ?_⟩; have n0_ := Aside0.mk (below_step (by repeat (first | (with_reducible first | exact HB.out | apply below_alloc | apply pw_below_drewN | apply below_drew1) | exact HB.out)) hb); clear HB; have HB := n0_; clear n0_; (try clear hb); (try clear hb2); (try clear hk); (try clear hi)))
      go_ret
      exact ⟨by first | rfl | (simp [errW_none, errW_some] <;> rfl) | (simp [*, errW_none, errW_some] <;> rfl), by repeat (first | (with_reducible first | exact HB.out | apply below_alloc | apply pw_below_drewN | apply below_drew1) | exact HB.out)⟩
    · rw [if_neg c4] at H
      have c4b0 : decide (1000 < (a0.size : Int)) = false := decide_eq_false c4
      have c4b1 : decide (1000 < a0.size) = false := decide_eq_false (by omega)
      clear c4
      replace H := Option.bind_eq_some_iff.mp H
      obtain ⟨t464, A60, H⟩ := H
      replace H : ((gangsawref02_Digest.f k a0).bind fun t465 => (some (t464.toList == t465.toList))) = some r := H
      have A6 := Aside0.mk A60
      clear A60
      replace H := Option.bind_eq_some_iff.mp H
      obtain ⟨t465, A70, H⟩ := H
      replace H : (some (t464.toList == t465.toList)) = some r := H
      have A7 := Aside0.mk A70
      clear A70
      obtain rfl := Option.some.inj H
      go_enter Tryd.func9, Tryd.ntmps9
      go_wp2_with (first | ((with_reducible refine gate_callee (f := 11) rfl ?_); refine goesL_ (some 3) rfl rfl Tryd.func11 (by kernel_rfl) rfl #[] rfl (by (try simp only [List.map_toArray, List.map_cons, List.map_nil]); first | done | rfl | (simp only [List.length_drop, List.length_take]; rfl)) ?_; (with_reducible refine (gangsawlaw02_awake.calls  true _ ?side1 A2.out).mono ?_); (case side1 => exact GG.mono HG.out (by repeat (first | (with_reducible first | exact HB.out | apply below_alloc | apply pw_below_drewN | apply below_drew1) | exact HB.out))); rintro e w8 ⟨rfl, hb⟩; refine ⟨_, rfl, ?_⟩; have n0_ := Aside0.mk (below_step (by repeat (first | (with_reducible first | exact HB.out | apply below_alloc | apply pw_below_drewN | apply below_drew1) | exact HB.out)) hb); clear HB; have HB := n0_; clear n0_; (try clear hb); (try clear hb2); (try clear hk); (try clear hi)) | (go_at_call 26; (with_reducible refine (codec_Digest.calls a0 t464 _ ?side1 A6.out).mono ?_); (case side1 => exact GG.mono HG.out (by repeat (first | (with_reducible first | exact HB.out | apply below_alloc | apply pw_below_drewN | apply below_drew1) | exact HB.out))); rintro e w9 ⟨rfl, hb⟩; have n0_ := Aside0.mk (below_step (by repeat (first | (with_reducible first | exact HB.out | apply below_alloc | apply pw_below_drewN | apply below_drew1) | exact HB.out)) hb); clear HB; have HB := n0_; clear n0_; (try clear hb); (try clear hb2); (try clear hk); (try clear hi)) | (go_at_call 27; (with_reducible refine (gangsawref02_Digest.calls k a0 t465 _ A7.out).mono ?_); rintro e w' ⟨rfl, ⟨nd, rfl⟩⟩))
      go_ret
      exact ⟨by first | rfl | (simp [errW_none, errW_some] <;> rfl) | (simp [*, errW_none, errW_some] <;> rfl), by repeat (first | (with_reducible first | exact HB.out | apply below_alloc | apply pw_below_drewN | apply below_drew1) | exact HB.out)⟩
  · replace c3 := Bool.eq_false_iff.mpr c3
    subst c3
    have H1 : (none) = some r := by rw [if_neg (show ¬ (false = true) by decide)] at H; exact H
    clear H
    have H := H1
    clear H1
    exact absurd H (by simp)

/-- THE ONE PURE STATEMENT of gangsawlaw02_CodecDigests: yours. -/
def gangsawlaw02_CodecDigests.Pure : Prop := ∀ (a0 : ByteArray), a0.size ≤ 140737488351232 → ∃ k, gangsawlaw02_CodecDigests.f k a0 = some true
end Go.Proofs.YtcmphojichgfeaaDoor.QC
