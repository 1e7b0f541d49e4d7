/- A premise on the world that every contract may ask: the library's table and error variables read as laid. -/
import Derived.Below
import Derived.Test.YtkmffnjmiechfaaDoorProg
namespace Go.Sx
open Go.RowKit (Below)
open Go.Proofs
def GG (w : World) : Prop :=
  w.var? Tryd.prog "internal/strconv.uint64pow10" = some ((((List.range 20).map fun i => ((10 ^ i : Nat) : Int)).map fun z => Value.int .u64 z).toArray) ∧ (∃ t p, w.var? Tryd.prog "strconv.ErrSyntax" = some #[.iface t p]) ∧ (∃ t p, w.var? Tryd.prog "strconv.ErrRange" = some #[.iface t p]) ∧ ∃ m, w.cell? ⟨2, 0, none⟩ = some (.int .i64 m)
theorem var_keep {P : Program} {w w' : World} {n : String} {cs : Array Value} (hb : Below w.heap.size w w') (h : w.var? P n = some cs) : w'.var? P n = some cs := by
  unfold World.var? at h ⊢
  cases hg : P.globalNamed n with
  | none => rw [hg] at h; cases h
  | some g =>
    rw [hg] at h
    simp only [Option.bind_some] at h ⊢
    have hlt : g < w.heap.size := by
      apply Decidable.by_contra
      intro hn
      rw [Array.getElem?_eq_none (by omega)] at h
      cases h
    have hk : w'.heap[g]? = w.heap[g]? := hb.block g hlt
    rw [hk]
    exact h
theorem GG.mono {w w' : World} (h : GG w) (hb : Below w.heap.size w w') : GG w' := by
  obtain ⟨h1, ⟨t2, p2, h2⟩, ⟨t3, p3, h3⟩, m, h4⟩ := h
  exact ⟨var_keep hb h1, ⟨t2, p2, var_keep hb h2⟩, ⟨t3, p3, var_keep hb h3⟩, m, by rw [hb.cell (World.block_lt_of_cell? _ _ h4)]; exact h4⟩
end Go.Sx
