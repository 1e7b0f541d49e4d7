/- The fraction seat: walks of valid at one fraction, and of ParseInt in one form. -/
import Derived.Test.YtkmffnjmiechfaaDoorFF14
import Derived.WalkKit
import Derived.Handy
import Derived.Deep.QuietTactic
import Derived.BigQuiet
namespace Go.Proofs.YtkmffnjmiechfaaDoor
open Go.Sx Go.RowKit
set_option linter.unusedVariables false
set_option linter.unusedSimpArgs false
set_option maxRecDepth 100000
theorem gv {f : Nat} (sg : Sig) (hc : CT Tryd.prog sigs Φ f) (hs : sigs f = some sg) (hoff : sg.off = none) (hlst : sg.lst = none) (hcl : callable Tryd.prog f = true) (l : List Sc) (w : World) (hg : GG w) (hcan : Canon sg.args l) (hp : (Φ f).pre l = true) :
    Calls Tryd.prog f (packs sg.args l).toArray w fun e w' => e = .returned (packRes sg.res ((Φ f).res l)) ∧ Below w.heap.size w w' := by
  have h := (hc sg hs).2
  rw [hoff, hlst] at h
  have h' := h l w hg hcan hp
  rw [if_pos hcl] at h'
  exact h'
theorem v23 (n d : Int) (w : World) (hg : GG w) : Calls Tryd.prog 23 #[.agg #[.int .i64 n, .int .i64 d]] w fun e w' => e = .returned (.bool (vF n d)) ∧ Below w.heap.size w w' :=
  gv (f := 23) ⟨[iv 2], [sb], none, none, none⟩ c23 rfl rfl rfl (by kernel_rfl) [.int n, .int d] w hg ⟨⟨_, rfl⟩, ⟨_, rfl⟩, trivial⟩ rfl
theorem v24 (n d : Int) (w : World) (hg : GG w) : Calls Tryd.prog 24 #[.agg #[.int .i64 n, .int .i64 d]] w fun e w' => e = .returned (.bool (vF n d)) ∧ Below w.heap.size w w' :=
  gv (f := 24) ⟨[iv 2], [sb], none, none, none⟩ c24 rfl rfl rfl (by kernel_rfl) [.int n, .int d] w hg ⟨⟨_, rfl⟩, ⟨_, rfl⟩, trivial⟩ rfl
theorem v63 (n d : Int) (w : World) (hg : GG w) (hv : txtP n d = true) : Calls Tryd.prog 63 #[.agg #[.int .i64 n, .int .i64 d]] w fun e w' => e = .returned (.string (txt n d)) ∧ Below w.heap.size w w' :=
  gv (f := 63) ⟨[iv 2], [.one .str], none, none, none⟩ c63 rfl rfl rfl (by kernel_rfl) [.int n, .int d] w hg ⟨⟨_, rfl⟩, ⟨_, rfl⟩, trivial⟩ hv
theorem v38 (n d : Int) (w : World) (hg : GG w) (hv : vF n d = true) : Calls Tryd.prog 38 #[.agg #[.int .i64 n, .int .i64 d]] w fun e w' => e = .returned (.string (txt n d)) ∧ Below w.heap.size w w' :=
  gv (f := 38) ⟨[iv 2], [.one .str], none, none, none⟩ c38 rfl rfl rfl (by kernel_rfl) [.int n, .int d] w hg ⟨⟨_, rfl⟩, ⟨_, rfl⟩, trivial⟩ hv
/-- ParseInt(s, 10, 64): the number, and whether there is no error. -/
def pInt (l : List UInt8) : Int × Bool := match Lib.parseIntB 64 l with
  | .ok v => (v, true)
  | .range => (Lib.intSat 64 l, false)
  | _ => (0, false)
theorem v62 (s : ByteArray) (hs : s.size ≤ 1000) (w : World) (hg : GG w) : Calls Tryd.prog 62 #[.string s, .int .i64 10, .int .i64 64] w fun e w' =>
    ∃ x, e = .returned (.tuple #[.int .i64 (pInt s.data.toList).1, x]) ∧ (x = .nilIface ∧ (pInt s.data.toList).2 = true ∨ (∃ t p, x = .iface t p) ∧ (pInt s.data.toList).2 = false) ∧ Below w.heap.size w w' := by
  obtain ⟨h1, ⟨t2, p2, h2⟩, ⟨t3, p3, h3⟩, m, h4⟩ := hg
  unfold pInt
  generalize h : Lib.parseIntB 64 s.data.toList = r
  cases r
  · rename_i v
    exact (Tryd.strconv_ParseInt_10_at64_ok s (by omega) v h w).mono fun e w' ⟨he, hw⟩ => ⟨_, he, .inl ⟨rfl, rfl⟩, by
      rcases hw with rfl | ⟨t, rfl⟩
      · exact Below.refl _ _
      · exact Lib.bytesWorld_below _ _ _⟩
  · exact (Tryd.strconv_ParseInt_10_at64_bad_var s (by omega) (fun v hv => by rw [h] at hv; cases hv) (fun hv => by rw [h] at hv; cases hv) t2 p2 w h2).mono fun e w' ⟨N, he, _, _, hw⟩ => ⟨_, he, .inr ⟨⟨_, _, rfl⟩, rfl⟩, hw⟩
  · exact (Tryd.strconv_ParseInt_10_at64_range_var s (by omega) h t3 p3 w h3).mono fun e w' ⟨N, he, _, _, hw⟩ => ⟨_, he, .inr ⟨⟨_, _, rfl⟩, rfl⟩, hw⟩
theorem below_tr {w a b : World} (h1 : Below w.heap.size w a) (h2 : Below a.heap.size a b) : Below w.heap.size w b := by
  have hs := h1.size
  exact ⟨h2.os.trans h1.os, h2.tape.trans h1.tape, h2.output.trans h1.output, Nat.le_trans hs h2.size, fun g hg => (h2.block g (by omega)).trans (h1.block g hg)⟩
theorem walk39 (n d : Int) (b o : Nat) (w : World) (hg : GG w) (h0 : w.cell? ⟨b, o, none⟩ = some (.int .i64 n)) (h1 : w.cell? ⟨b, o + 1, none⟩ = some (.int .i64 d)) :
    Calls Tryd.prog 39 #[.slice (some ⟨b, o, none⟩) 1 1] w fun e w' => e = .returned (.bool (vF n d)) ∧ Below w.heap.size w w' := by
  have HG : Hid (GG w) := hg
  clear hg
  go_enter Tryd.func39, Tryd.ntmps39
  go_wp2
  refine wp_loop_rounds 2 ?_
  rw [rounds_succ]
  go_wp2_with (go_at_call 23; refine (v23 n d _ (GG.mono HG.out (by go_grown))).mono ?_; rintro e w1 ⟨rfl, hb⟩)
  · have HB : Hid (Below w.heap.size w w1) := below_tr (by go_grown) hb
    go_ret
    exact ⟨by cases hv : vF n d <;> simp_all, HB.out⟩
  · have HB : Hid (Below w.heap.size w w1) := below_tr (by go_grown) hb
    clear hb
    rw [rounds_succ]
    go_wp2
    go_ret
    exact ⟨by cases hv : vF n d <;> simp_all, HB.out⟩
end Go.Proofs.YtkmffnjmiechfaaDoor
