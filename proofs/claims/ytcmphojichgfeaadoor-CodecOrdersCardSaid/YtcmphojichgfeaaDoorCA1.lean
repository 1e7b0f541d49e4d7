/- The codec seat: Num, Str, Seq, walked by hand. -/
import Derived.Test.YtcmphojichgfeaaDoorCDR
import Derived.Lib.Walk
import Derived.Lib.SliceRun
import Derived.Laws.AppendOwn
namespace Go.Proofs.YtcmphojichgfeaaDoor.QC
open Go.RowKit Go.Proofs.YtcmphojichgfeaaDoorW.PrintWords Go.Proofs.YtcmphojichgfeaaDoorW.PrintLast Go.Proofs.YtcmphojichgfeaaDoorW.PrintMore
set_option linter.unusedVariables false
set_option linter.unusedSimpArgs false
attribute [local go_sem] max2_int min2_int max_two min_two
set_option maxHeartbeats 4000000 in
theorem Num0 (n : Int) (w : World) : Calls Tryd.prog 29 #[.int .i64 n] w fun e w' => e = .returned (.agg #[.int .i64 1, .int .i64 n, .string (⟨#[]⟩ : ByteArray), .slice none 0 0]) ∧ Below w.heap.size w w' := by
  go_enter Tryd.func29, Tryd.ntmps29
  go_wp2_with (first | ((with_reducible refine gate_dst (N := 2) rfl ?_); refine box_event ?hg (N := 2) ?hd (cs := #[.int .i64 0, .int .i64 0, .string (⟨#[]⟩ : ByteArray), .slice none 0 0]) (t := 32) ?hr ?_; (case hd => rfl); (case hg => rfl); (case hr => first | (go_simp; done) | (go_simp; rfl)); intro g2 hg w2 hbox hb; have HG2 := Aside0.mk (show w.heap.size ≤ g2 by rw [hg]; exact (below_size (blL (Below.refl w.heap.size w)))); have HB2 := Aside0.mk hbox; have HL2 := Aside0.mk (bbL (Below.refl w.heap.size w) hb); clear hb hbox hg; have hc_2_0 : w2.cell? ⟨g2, 0, none⟩ = some (.int .i64 0) := (blk_cell HB2.out 0).trans rfl; have hf_2_0 := blk_frozen HB2.out 0; have hc_2_1 : w2.cell? ⟨g2, 1, none⟩ = some (.int .i64 0) := (blk_cell HB2.out 1).trans rfl; have hf_2_1 := blk_frozen HB2.out 1; have hc_2_2 : w2.cell? ⟨g2, 2, none⟩ = some (.string (⟨#[]⟩ : ByteArray)) := (blk_cell HB2.out 2).trans rfl; have hf_2_2 := blk_frozen HB2.out 2; have hc_2_3 : w2.cell? ⟨g2, 3, none⟩ = some (.slice none 0 0) := (blk_cell HB2.out 3).trans rfl; have hf_2_3 := blk_frozen HB2.out 3))
  have hb := st4_put HB2.out (.int .i64 1) (.int .i64 n) (.string (⟨#[]⟩ : ByteArray)) (.slice none 0 0)
  refine bodyPost_ret (results_cell_row rfl _ _ g2 32 #[.int .i64 1, .int .i64 n, .string (⟨#[]⟩ : ByteArray), .slice none 0 0] (0, 0) _ rfl (hb) Tryd.underlying32 rfl (by kernel_rfl)) rfl ?_
  exact ⟨rfl, st4_B HL2.out HG2.out _ _ _ _⟩
set_option maxHeartbeats 4000000 in
theorem Str0 (x : ByteArray) (w : World) : Calls Tryd.prog 30 #[.string x] w fun e w' => e = .returned (.agg #[.int .i64 2, .int .i64 0, .string x, .slice none 0 0]) ∧ Below w.heap.size w w' := by
  go_enter Tryd.func30, Tryd.ntmps30
  go_wp2_with (first | ((with_reducible refine gate_dst (N := 2) rfl ?_); refine box_event ?hg (N := 2) ?hd (cs := #[.int .i64 0, .int .i64 0, .string (⟨#[]⟩ : ByteArray), .slice none 0 0]) (t := 32) ?hr ?_; (case hd => rfl); (case hg => rfl); (case hr => first | (go_simp; done) | (go_simp; rfl)); intro g2 hg w2 hbox hb; have HG2 := Aside0.mk (show w.heap.size ≤ g2 by rw [hg]; exact (below_size (blL (Below.refl w.heap.size w)))); have HB2 := Aside0.mk hbox; have HL2 := Aside0.mk (bbL (Below.refl w.heap.size w) hb); clear hb hbox hg; have hc_2_0 : w2.cell? ⟨g2, 0, none⟩ = some (.int .i64 0) := (blk_cell HB2.out 0).trans rfl; have hf_2_0 := blk_frozen HB2.out 0; have hc_2_1 : w2.cell? ⟨g2, 1, none⟩ = some (.int .i64 0) := (blk_cell HB2.out 1).trans rfl; have hf_2_1 := blk_frozen HB2.out 1; have hc_2_2 : w2.cell? ⟨g2, 2, none⟩ = some (.string (⟨#[]⟩ : ByteArray)) := (blk_cell HB2.out 2).trans rfl; have hf_2_2 := blk_frozen HB2.out 2; have hc_2_3 : w2.cell? ⟨g2, 3, none⟩ = some (.slice none 0 0) := (blk_cell HB2.out 3).trans rfl; have hf_2_3 := blk_frozen HB2.out 3))
  have hb := st4_put HB2.out (.int .i64 2) (.int .i64 0) (.string x) (.slice none 0 0)
  refine bodyPost_ret (results_cell_row rfl _ _ g2 32 #[.int .i64 2, .int .i64 0, .string x, .slice none 0 0] (0, 0) _ rfl (hb) Tryd.underlying32 rfl (by kernel_rfl)) rfl ?_
  exact ⟨rfl, st4_B HL2.out HG2.out _ _ _ _⟩
def l2 : List S32 := [⟨1, 1, ⟨#[]⟩, []⟩, ⟨2, 0, ⟨#[97, 98]⟩, []⟩]
abbrev n8 : List Value := [.int .i64 1, .int .i64 1, .string (⟨#[]⟩ : ByteArray), .slice none 0 0, .int .i64 2, .int .i64 0, .string (⟨#[97, 98]⟩ : ByteArray), .slice none 0 0]
theorem reps2 (W : World) (base : Nat) (ok : Nat → Prop) : Reps (k32.M W base ok) 4 l2 n8 := by
  refine ⟨rfl, fun j p hj => ?_⟩
  rcases j with _ | _ | j
  · cases hj
    exact k32_mkM W base ok ⟨1, 1, ⟨#[]⟩, []⟩ (Kd.R_nil _ _ _ _ _)
  · cases hj
    exact k32_mkM W base ok ⟨2, 0, ⟨#[97, 98]⟩, []⟩ (Kd.R_nil _ _ _ _ _)
  · simp [l2] at hj
set_option maxHeartbeats 4000000 in
set_option maxRecDepth 100000 in
theorem cloneC (b c : Nat) (w : World) (hb : w.heap[b]? = some (.cells #[.int .i64 1, .int .i64 1, .string (⟨#[]⟩ : ByteArray), .slice none 0 0, .int .i64 2, .int .i64 0, .string (⟨#[97, 98]⟩ : ByteArray), .slice none 0 0] 32 (0, 0))) : Calls Tryd.prog 49 #[.slice (some ⟨b, 0, none⟩) 2 c] w fun e w' => ∃ v', e = .returned v' ∧ Kd.R k32 32 w' w.heap.size (fun _ => True) v' l2 ∧ Below w.heap.size w w' := by
  have q30 : ∀ (w : World) (a : Option Addr) (n c n' c' : Nat), (binOp .eql 30 (.slice a n c) (.slice none n' c')).run Tryd.prog w = .ok (.bool a.isNone) w := fun w a n c n' c' => Lib.run_eql_slice_nil w _ _ a n c n' c' Tryd.underlying30
  obtain ⟨i0, hi, hzz⟩ := Option.map_eq_some_iff.1 info32
  simp only [Prod.mk.injEq] at hzz
  obtain ⟨hz0, hz1, hz2⟩ := hzz
  have hc : ∀ j u, n8[j]? = some u → w.cell? ⟨b, 0 + j, none⟩ = some u := by
    intro j u hj
    rw [Nat.zero_add]
    refine (blk_cell hb j).trans ?_
    simpa using hj
  have A := Aside0.mk hc
  have HI := Aside0.mk hi
  clear hc hi hb
  go_enter Tryd.func49, Tryd.ntmps49
  go_wp2_with (at_builtin; refine wpList_append_own _ rfl _ _ 30 rfl w.heap.size 32 i0 (.agg #[.int .i64 0, .int .i64 0, .string (⟨#[]⟩ : ByteArray), .slice none 0 0]) 4 56 Tryd.underlying30 HI.out hz0 hz1 hz2 rfl (by decide) _ _ _ rfl (World.ownsRow_made w #[] 0 (Nat.le_refl _) (Nat.zero_le _) (by simp)) ⟨b, 0, none⟩ 2 c n8 rfl ?qc1 ?qc2 ?qc3 ?qc4 ?qc5 ?qc6 ?_)
  case qc1 => rfl
  case qc2 =>
    intro j u hj
    rw [Addr.add_lit]
    exact Lib.cell?_alloc_some _ (A.out j u hj)
  case qc3 => decide
  case qc4 => decide
  case qc5 => decide
  case qc6 => simp
  intro v' w1 hown hgrow hnil
  go_wp2
  go_ret
  refine ⟨v', rfl, ⟨fun _ _ => trivial, n8, (show w1.ownsRow w.heap.size 32 4 v' 2 n8 by simpa using hown), reps2 _ _ _⟩, ?_⟩
  exact ((Below.refl _ w).alloc (Nat.le_refl _) _).grown hgrow (by simp) (by intro k hk; simp [Value.ownBlock] at hk; omega)
set_option maxHeartbeats 4000000 in
set_option maxRecDepth 100000 in
theorem seqC (b c : Nat) (w : World) (hb : w.heap[b]? = some (.cells #[.int .i64 1, .int .i64 1, .string (⟨#[]⟩ : ByteArray), .slice none 0 0, .int .i64 2, .int .i64 0, .string (⟨#[97, 98]⟩ : ByteArray), .slice none 0 0] 32 (0, 0))) : Calls Tryd.prog 28 #[.slice (some ⟨b, 0, none⟩) 2 c] w fun e w' => ∃ v', e = .returned (.agg #[.int .i64 3, .int .i64 0, .string (⟨#[]⟩ : ByteArray), v']) ∧ Kd.R k32 32 w' w.heap.size (fun _ => True) v' l2 ∧ Below w.heap.size w w' := by
  have HX := Aside0.mk hb
  clear hb
  go_enter Tryd.func28, Tryd.ntmps28
  go_wp2_with (first | ((with_reducible refine gate_dst (N := 2) rfl ?_); refine box_event ?hg (N := 2) ?hd (cs := #[.int .i64 0, .int .i64 0, .string (⟨#[]⟩ : ByteArray), .slice none 0 0]) (t := 32) ?hr ?_; (case hd => rfl); (case hg => rfl); (case hr => first | (go_simp; done) | (go_simp; rfl)); intro g2 hg w2 hbox hb; have HG2 := Aside0.mk (show w.heap.size ≤ g2 by rw [hg]; exact (below_size (blL (Below.refl w.heap.size w)))); have HB2 := Aside0.mk hbox; have HL2 := Aside0.mk (bbL (Below.refl w.heap.size w) hb); clear hb hbox hg; have hc_2_0 : w2.cell? ⟨g2, 0, none⟩ = some (.int .i64 0) := (blk_cell HB2.out 0).trans rfl; have hf_2_0 := blk_frozen HB2.out 0; have hc_2_1 : w2.cell? ⟨g2, 1, none⟩ = some (.int .i64 0) := (blk_cell HB2.out 1).trans rfl; have hf_2_1 := blk_frozen HB2.out 1; have hc_2_2 : w2.cell? ⟨g2, 2, none⟩ = some (.string (⟨#[]⟩ : ByteArray)) := (blk_cell HB2.out 2).trans rfl; have hf_2_2 := blk_frozen HB2.out 2; have hc_2_3 : w2.cell? ⟨g2, 3, none⟩ = some (.slice none 0 0) := (blk_cell HB2.out 3).trans rfl; have hf_2_3 := blk_frozen HB2.out 3) | ((with_reducible refine gate_callee (f := 49) rfl ?_); refine goesL_ (some 4) rfl rfl Tryd.func49 (by kernel_rfl) rfl #[.slice (some ⟨b, 0, none⟩) 2 c] rfl (by (try simp only [List.map_toArray, List.map_cons, List.map_nil]); first | done | rfl) ?_; (with_reducible refine (cloneC b c _ (by exact blk_below HX.out HL2.out)).mono ?_); rintro e w3 ⟨v', rfl, hv, hb⟩; refine ⟨_, rfl, ?_⟩; have HV := Aside0.mk (Kd.R_mono (Kd.R_bound hv) (fun k hk => (show k ≠ g2 by have := hk.2.1; have := blk_lt HB2.out; omega))); have HV2 := Aside0.mk (Kd.R_lower HV.out HL2.out.size); have HB3 := Aside0.mk (blk_below HB2.out hb); have HL3 := Aside0.mk (below_step HL2.out hb); clear HV HB2 HL2 hv hb hc_2_0 hc_2_1 hc_2_2 hc_2_3 hf_2_0 hf_2_1 hf_2_2 hf_2_3; obtain ⟨A, ca, rfl⟩ := Kd.R_slice HV2.out; have hc_2_0 : w3.cell? ⟨g2, 0, none⟩ = some (.int .i64 0) := (blk_cell HB3.out 0).trans rfl; have hf_2_0 := blk_frozen HB3.out 0; have hc_2_1 : w3.cell? ⟨g2, 1, none⟩ = some (.int .i64 0) := (blk_cell HB3.out 1).trans rfl; have hf_2_1 := blk_frozen HB3.out 1; have hc_2_2 : w3.cell? ⟨g2, 2, none⟩ = some (.string (⟨#[]⟩ : ByteArray)) := (blk_cell HB3.out 2).trans rfl; have hf_2_2 := blk_frozen HB3.out 2; have hc_2_3 : w3.cell? ⟨g2, 3, none⟩ = some (.slice none 0 0) := (blk_cell HB3.out 3).trans rfl; have hf_2_3 := blk_frozen HB3.out 3))
  have hb := st4_put HB3.out (.int .i64 3) (.int .i64 0) (.string (⟨#[]⟩ : ByteArray)) (.slice A l2.length ca)
  refine bodyPost_ret (results_cell_row rfl _ _ g2 32 #[.int .i64 3, .int .i64 0, .string (⟨#[]⟩ : ByteArray), .slice A l2.length ca] (0, 0) _ rfl (hb) Tryd.underlying32 rfl (by kernel_rfl)) rfl ?_
  exact ⟨_, rfl, Kd.R_mono (Kd.R_far (p := ⟨g2, 3, none⟩) (Kd.R_far (p := ⟨g2, 2, none⟩) (Kd.R_far (p := ⟨g2, 1, none⟩) (Kd.R_far (p := ⟨g2, 0, none⟩) HV2.out (fun k hk => hk) _) (fun k hk => hk) _) (fun k hk => hk) _) (fun k hk => hk) _) (fun _ _ => trivial), st4_B HL3.out HG2.out _ _ _ _⟩
end Go.Proofs.YtcmphojichgfeaaDoor.QC
