/- A premise on the world that every contract may ask: here none. -/
import Derived.Below
namespace Go.Sx
open Go.RowKit (Below)
def GG (_ : World) : Prop := True
theorem GG.mono {w w' : World} (_ : GG w) (_ : Below w.heap.size w w') : GG w' := trivial
end Go.Sx
