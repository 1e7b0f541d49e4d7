/-
  DERIVED. GIVEN WITH THE SEED: THE CARDS: each row of YtkmffnjmiechfaaDoorRows.lean that lists a variable, with what it lists TIED to the program's text (the seventh form; the later family's looks); each row that meets fmt, with fmt's text TOLD by the authors' own Lean function (tested against real Go, not proved from fmt's source: count such statements apart). THE CARD IS WHAT COUNTS. Prove the row's statement (the work); the ties are given (YtkmffnjmiechfaaDoorTie.lean); close each card by the builder's one call (the guide's Derived/Test/ToyasCard.lean, 'card_holds'). Laid BY PROGRAM, IN A SANDBOX (cutbox-door.mjs). By AI agents, Wed Nov 11 2026. No macro, syntax, notation, axiom, sorry.
-/
import Derived.Test.YtkmffnjmiechfaaDoorRows
import GoSem.ClaimSeven
namespace Go.Proofs.YtkmffnjmiechfaaDoor
namespace Rows

/-- THE TIED CARD OF 'gangsawlaw04.FractionOperates'. -/
def fractionOperatesCard : Claim7 := { stood := { row := fractionOperatesRow, standIns := [], harness := (true, "1cd9dce0ac13f553b81852ae08feed0f54c78e7bc9128b095bd4cf0c92103930"), looks := true }, kinds := [], alts := [], laidByText := true, laidKinds := [.data, .data, .data, .sentinel, .sentinel], laidTests := true, laidLooks := .later }
def FractionOperatesCardSaid : Prop := Claim7.holds Tryd.pinned (.plain (OpenSpec.ofChange fractionOperatesSpec)) fractionOperatesCard

/-- THE TIED CARD OF 'gangsawlaw04.FractionAlgebra'. -/
def fractionAlgebraCard : Claim7 := { stood := { row := fractionAlgebraRow, standIns := [], harness := (true, "1cd9dce0ac13f553b81852ae08feed0f54c78e7bc9128b095bd4cf0c92103930"), looks := true }, kinds := [], alts := [], laidByText := true, laidKinds := [.data, .data, .data, .sentinel, .sentinel], laidTests := true, laidLooks := .later }
def FractionAlgebraCardSaid : Prop := Claim7.holds Tryd.pinned (.plain (OpenSpec.ofChange fractionAlgebraSpec)) fractionAlgebraCard

/-- THE TIED CARD OF 'gangsawlaw04.FractionNew'. -/
def fractionNewCard : Claim7 := { stood := { row := fractionNewRow, standIns := [], harness := (true, "1cd9dce0ac13f553b81852ae08feed0f54c78e7bc9128b095bd4cf0c92103930"), looks := true }, kinds := [], alts := [], laidByText := true, laidKinds := [.data, .data, .data, .sentinel, .sentinel], laidTests := true, laidLooks := .later }
def FractionNewCardSaid : Prop := Claim7.holds Tryd.pinned (.plain (OpenSpec.ofChange fractionNewSpec)) fractionNewCard

/-- THE TIED CARD OF 'gangsawlaw04.FractionPowers'. -/
def fractionPowersCard : Claim7 := { stood := { row := fractionPowersRow, standIns := [], harness := (true, "1cd9dce0ac13f553b81852ae08feed0f54c78e7bc9128b095bd4cf0c92103930"), looks := true }, kinds := [], alts := [], laidByText := true, laidKinds := [.data, .data, .data, .sentinel, .sentinel], laidTests := true, laidLooks := .later }
def FractionPowersCardSaid : Prop := Claim7.holds Tryd.pinned (.plain (OpenSpec.ofChange fractionPowersSpec)) fractionPowersCard

/-- THE TIED CARD OF 'gangsawlaw04.FractionCompares'. -/
def fractionComparesCard : Claim7 := { stood := { row := fractionComparesRow, standIns := [], harness := (true, "1cd9dce0ac13f553b81852ae08feed0f54c78e7bc9128b095bd4cf0c92103930"), looks := true }, kinds := [], alts := [], laidByText := true, laidKinds := [.data, .data, .data, .sentinel, .sentinel], laidTests := true, laidLooks := .later }
def FractionComparesCardSaid : Prop := Claim7.holds Tryd.pinned (.plain (OpenSpec.ofChange fractionComparesSpec)) fractionComparesCard

/-- THE TIED CARD OF 'gangsawlaw04.FractionSimplest'. -/
def fractionSimplestCard : Claim7 := { stood := { row := fractionSimplestRow, standIns := [], harness := (true, "1cd9dce0ac13f553b81852ae08feed0f54c78e7bc9128b095bd4cf0c92103930"), looks := true }, kinds := [], alts := [], laidByText := true, laidKinds := [.data, .data, .data, .sentinel, .sentinel], laidTests := true, laidLooks := .later }
def FractionSimplestCardSaid : Prop := Claim7.holds Tryd.pinned (.plain (OpenSpec.ofChange fractionSimplestSpec)) fractionSimplestCard

/-- THE TIED CARD OF 'gangsawlaw04.FractionTexts'. -/
def fractionTextsCard : Claim7 := { stood := { row := fractionTextsRow, standIns := [], harness := (true, "1cd9dce0ac13f553b81852ae08feed0f54c78e7bc9128b095bd4cf0c92103930"), looks := true }, kinds := [], alts := [], laidByText := true, laidKinds := [.data, .data, .data, .sentinel, .sentinel], laidTests := true, laidLooks := .later }
def FractionTextsCardSaid : Prop := Claim7.holds Tryd.pinned (.plain (OpenSpec.ofChange fractionTextsSpec)) fractionTextsCard

/-- THE TIED CARD OF 'gangsawlaw04.FractionOrder'. -/
def fractionOrderCard : Claim7 := { stood := { row := fractionOrderRow, standIns := [], harness := (true, "1cd9dce0ac13f553b81852ae08feed0f54c78e7bc9128b095bd4cf0c92103930"), looks := true }, kinds := [], alts := [], laidByText := true, laidKinds := [.data, .data, .data, .sentinel, .sentinel], laidTests := true, laidLooks := .later }
def FractionOrderCardSaid : Prop := Claim7.holds Tryd.pinned (.plain (OpenSpec.ofChange fractionOrderSpec)) fractionOrderCard

/-- THE SECOND FORM's CARD OF 'gangsawlaw04.FractionOperates'. -/
def fractionOperatesUptoCard : Claim7 := { stood := { row := fractionOperatesUptoRow, standIns := [], harness := (true, "1cd9dce0ac13f553b81852ae08feed0f54c78e7bc9128b095bd4cf0c92103930"), looks := true }, kinds := [], alts := [], laidByText := true, laidKinds := [.data, .data, .data, .sentinel, .sentinel], laidTests := true, laidLooks := .later }
def FractionOperatesUptoCardSaid : Prop := Claim7.holds Tryd.pinned (.plain (OpenSpec.upto fractionOperatesSpec)) fractionOperatesUptoCard

/-- THE SECOND FORM's CARD OF 'gangsawlaw04.FractionAlgebra'. -/
def fractionAlgebraUptoCard : Claim7 := { stood := { row := fractionAlgebraUptoRow, standIns := [], harness := (true, "1cd9dce0ac13f553b81852ae08feed0f54c78e7bc9128b095bd4cf0c92103930"), looks := true }, kinds := [], alts := [], laidByText := true, laidKinds := [.data, .data, .data, .sentinel, .sentinel], laidTests := true, laidLooks := .later }
def FractionAlgebraUptoCardSaid : Prop := Claim7.holds Tryd.pinned (.plain (OpenSpec.upto fractionAlgebraSpec)) fractionAlgebraUptoCard

/-- THE SECOND FORM's CARD OF 'gangsawlaw04.FractionNew'. -/
def fractionNewUptoCard : Claim7 := { stood := { row := fractionNewUptoRow, standIns := [], harness := (true, "1cd9dce0ac13f553b81852ae08feed0f54c78e7bc9128b095bd4cf0c92103930"), looks := true }, kinds := [], alts := [], laidByText := true, laidKinds := [.data, .data, .data, .sentinel, .sentinel], laidTests := true, laidLooks := .later }
def FractionNewUptoCardSaid : Prop := Claim7.holds Tryd.pinned (.plain (OpenSpec.upto fractionNewSpec)) fractionNewUptoCard

/-- THE SECOND FORM's CARD OF 'gangsawlaw04.FractionPowers'. -/
def fractionPowersUptoCard : Claim7 := { stood := { row := fractionPowersUptoRow, standIns := [], harness := (true, "1cd9dce0ac13f553b81852ae08feed0f54c78e7bc9128b095bd4cf0c92103930"), looks := true }, kinds := [], alts := [], laidByText := true, laidKinds := [.data, .data, .data, .sentinel, .sentinel], laidTests := true, laidLooks := .later }
def FractionPowersUptoCardSaid : Prop := Claim7.holds Tryd.pinned (.plain (OpenSpec.upto fractionPowersSpec)) fractionPowersUptoCard

/-- THE SECOND FORM's CARD OF 'gangsawlaw04.FractionCompares'. -/
def fractionComparesUptoCard : Claim7 := { stood := { row := fractionComparesUptoRow, standIns := [], harness := (true, "1cd9dce0ac13f553b81852ae08feed0f54c78e7bc9128b095bd4cf0c92103930"), looks := true }, kinds := [], alts := [], laidByText := true, laidKinds := [.data, .data, .data, .sentinel, .sentinel], laidTests := true, laidLooks := .later }
def FractionComparesUptoCardSaid : Prop := Claim7.holds Tryd.pinned (.plain (OpenSpec.upto fractionComparesSpec)) fractionComparesUptoCard

/-- THE SECOND FORM's CARD OF 'gangsawlaw04.FractionSimplest'. -/
def fractionSimplestUptoCard : Claim7 := { stood := { row := fractionSimplestUptoRow, standIns := [], harness := (true, "1cd9dce0ac13f553b81852ae08feed0f54c78e7bc9128b095bd4cf0c92103930"), looks := true }, kinds := [], alts := [], laidByText := true, laidKinds := [.data, .data, .data, .sentinel, .sentinel], laidTests := true, laidLooks := .later }
def FractionSimplestUptoCardSaid : Prop := Claim7.holds Tryd.pinned (.plain (OpenSpec.upto fractionSimplestSpec)) fractionSimplestUptoCard

/-- THE SECOND FORM's CARD OF 'gangsawlaw04.FractionTexts'. -/
def fractionTextsUptoCard : Claim7 := { stood := { row := fractionTextsUptoRow, standIns := [], harness := (true, "1cd9dce0ac13f553b81852ae08feed0f54c78e7bc9128b095bd4cf0c92103930"), looks := true }, kinds := [], alts := [], laidByText := true, laidKinds := [.data, .data, .data, .sentinel, .sentinel], laidTests := true, laidLooks := .later }
def FractionTextsUptoCardSaid : Prop := Claim7.holds Tryd.pinned (.plain (OpenSpec.upto fractionTextsSpec)) fractionTextsUptoCard

/-- THE SECOND FORM's CARD OF 'gangsawlaw04.FractionOrder'. -/
def fractionOrderUptoCard : Claim7 := { stood := { row := fractionOrderUptoRow, standIns := [], harness := (true, "1cd9dce0ac13f553b81852ae08feed0f54c78e7bc9128b095bd4cf0c92103930"), looks := true }, kinds := [], alts := [], laidByText := true, laidKinds := [.data, .data, .data, .sentinel, .sentinel], laidTests := true, laidLooks := .later }
def FractionOrderUptoCardSaid : Prop := Claim7.holds Tryd.pinned (.plain (OpenSpec.upto fractionOrderSpec)) fractionOrderUptoCard
end Rows
end Go.Proofs.YtkmffnjmiechfaaDoor
