/-
  DERIVED. GIVEN WITH THE SEED: THE CARDS: each row of YtcmphojichgfeaaDoorRows.lean that lists a variable, with what it lists TIED to the program's text (the seventh form; the later family's looks); each row that meets fmt, with fmt's text TOLD by the authors' own Lean function (tested against real Go, not proved from fmt's source: count such statements apart). THE CARD IS WHAT COUNTS. Prove the row's statement (the work); the ties are given (YtcmphojichgfeaaDoorTie.lean); close each card by the builder's one call (the guide's Derived/Test/ToyasCard.lean, 'card_holds'). Laid BY PROGRAM, IN A SANDBOX (cutbox-door.mjs). By AI agents, Wed Nov 11 2026. No macro, syntax, notation, axiom, sorry.
-/
import Derived.Test.YtcmphojichgfeaaDoorRows
import GoSem.ClaimSeven
namespace Go.Proofs.YtcmphojichgfeaaDoor
namespace Rows

/-- THE TIED CARD OF 'gangsawlaw02.CodecEncodes'. -/
def codecEncodesCard : Claim7 := { stood := { row := codecEncodesRow, standIns := [], harness := (true, "40514f4e30e2e814d8b5f70127c84f538ceace12d102eaf17d18a4564461166b"), looks := false }, kinds := [], alts := [], laidByText := true, laidKinds := [.data, .data, .data], laidTests := true, laidLooks := .later }
def CodecEncodesCardSaid : Prop := Claim7.holds Tryd.pinned (.plain (OpenSpec.ofChange codecEncodesSpec)) codecEncodesCard

/-- THE TIED CARD OF 'gangsawlaw02.CodecDecodes'. -/
def codecDecodesCard : Claim7 := { stood := { row := codecDecodesRow, standIns := [], harness := (true, "40514f4e30e2e814d8b5f70127c84f538ceace12d102eaf17d18a4564461166b"), looks := false }, kinds := [], alts := [], laidByText := true, laidKinds := [.data, .data, .data], laidTests := true, laidLooks := .later }
def CodecDecodesCardSaid : Prop := Claim7.holds Tryd.pinned (.plain (OpenSpec.ofChange codecDecodesSpec)) codecDecodesCard

/-- THE TIED CARD OF 'gangsawlaw02.CodecBack'. -/
def codecBackCard : Claim7 := { stood := { row := codecBackRow, standIns := [], harness := (true, "40514f4e30e2e814d8b5f70127c84f538ceace12d102eaf17d18a4564461166b"), looks := false }, kinds := [], alts := [], laidByText := true, laidKinds := [.data, .data, .data], laidTests := true, laidLooks := .later }
def CodecBackCardSaid : Prop := Claim7.holds Tryd.pinned (.plain (OpenSpec.ofChange codecBackSpec)) codecBackCard

/-- THE TIED CARD OF 'gangsawlaw02.CodecFirst'. -/
def codecFirstCard : Claim7 := { stood := { row := codecFirstRow, standIns := [], harness := (true, "40514f4e30e2e814d8b5f70127c84f538ceace12d102eaf17d18a4564461166b"), looks := false }, kinds := [], alts := [], laidByText := true, laidKinds := [.data, .data, .data], laidTests := true, laidLooks := .later }
def CodecFirstCardSaid : Prop := Claim7.holds Tryd.pinned (.plain (OpenSpec.ofChange codecFirstSpec)) codecFirstCard

/-- THE TIED CARD OF 'gangsawlaw02.CodecCompares'. -/
def codecComparesCard : Claim7 := { stood := { row := codecComparesRow, standIns := [], harness := (true, "40514f4e30e2e814d8b5f70127c84f538ceace12d102eaf17d18a4564461166b"), looks := false }, kinds := [], alts := [], laidByText := true, laidKinds := [.data, .data, .data], laidTests := true, laidLooks := .later }
def CodecComparesCardSaid : Prop := Claim7.holds Tryd.pinned (.plain (OpenSpec.ofChange codecComparesSpec)) codecComparesCard

/-- THE TIED CARD OF 'gangsawlaw02.CodecOrders'. -/
def codecOrdersCard : Claim7 := { stood := { row := codecOrdersRow, standIns := [], harness := (true, "40514f4e30e2e814d8b5f70127c84f538ceace12d102eaf17d18a4564461166b"), looks := false }, kinds := [], alts := [], laidByText := true, laidKinds := [.data, .data, .data], laidTests := true, laidLooks := .later }
def CodecOrdersCardSaid : Prop := Claim7.holds Tryd.pinned (.plain (OpenSpec.ofChange codecOrdersSpec)) codecOrdersCard

/-- THE TIED CARD OF 'gangsawlaw02.CodecDigests'. -/
def codecDigestsCard : Claim7 := { stood := { row := codecDigestsRow, standIns := [], harness := (true, "40514f4e30e2e814d8b5f70127c84f538ceace12d102eaf17d18a4564461166b"), looks := false }, kinds := [], alts := [], laidByText := true, laidKinds := [.data, .data, .data], laidTests := true, laidLooks := .later }
def CodecDigestsCardSaid : Prop := Claim7.holds Tryd.pinned (.plain (OpenSpec.ofChange codecDigestsSpec)) codecDigestsCard

/-- THE TIED CARD OF 'gangsawlaw02.CodecChanges'. -/
def codecChangesCard : Claim7 := { stood := { row := codecChangesRow, standIns := [], harness := (true, "40514f4e30e2e814d8b5f70127c84f538ceace12d102eaf17d18a4564461166b"), looks := false }, kinds := [], alts := [], laidByText := true, laidKinds := [.data, .data, .data], laidTests := true, laidLooks := .later }
def CodecChangesCardSaid : Prop := Claim7.holds Tryd.pinned (.plain (OpenSpec.ofChange codecChangesSpec)) codecChangesCard

/-- THE SECOND FORM's CARD OF 'gangsawlaw02.CodecEncodes'. -/
def codecEncodesUptoCard : Claim7 := { stood := { row := codecEncodesUptoRow, standIns := [], harness := (true, "40514f4e30e2e814d8b5f70127c84f538ceace12d102eaf17d18a4564461166b"), looks := false }, kinds := [], alts := [], laidByText := true, laidKinds := [.data, .data, .data], laidTests := true, laidLooks := .later }
def CodecEncodesUptoCardSaid : Prop := Claim7.holds Tryd.pinned (.plain (OpenSpec.upto codecEncodesSpec)) codecEncodesUptoCard

/-- THE SECOND FORM's CARD OF 'gangsawlaw02.CodecDecodes'. -/
def codecDecodesUptoCard : Claim7 := { stood := { row := codecDecodesUptoRow, standIns := [], harness := (true, "40514f4e30e2e814d8b5f70127c84f538ceace12d102eaf17d18a4564461166b"), looks := false }, kinds := [], alts := [], laidByText := true, laidKinds := [.data, .data, .data], laidTests := true, laidLooks := .later }
def CodecDecodesUptoCardSaid : Prop := Claim7.holds Tryd.pinned (.plain (OpenSpec.upto codecDecodesSpec)) codecDecodesUptoCard

/-- THE SECOND FORM's CARD OF 'gangsawlaw02.CodecBack'. -/
def codecBackUptoCard : Claim7 := { stood := { row := codecBackUptoRow, standIns := [], harness := (true, "40514f4e30e2e814d8b5f70127c84f538ceace12d102eaf17d18a4564461166b"), looks := false }, kinds := [], alts := [], laidByText := true, laidKinds := [.data, .data, .data], laidTests := true, laidLooks := .later }
def CodecBackUptoCardSaid : Prop := Claim7.holds Tryd.pinned (.plain (OpenSpec.upto codecBackSpec)) codecBackUptoCard

/-- THE SECOND FORM's CARD OF 'gangsawlaw02.CodecFirst'. -/
def codecFirstUptoCard : Claim7 := { stood := { row := codecFirstUptoRow, standIns := [], harness := (true, "40514f4e30e2e814d8b5f70127c84f538ceace12d102eaf17d18a4564461166b"), looks := false }, kinds := [], alts := [], laidByText := true, laidKinds := [.data, .data, .data], laidTests := true, laidLooks := .later }
def CodecFirstUptoCardSaid : Prop := Claim7.holds Tryd.pinned (.plain (OpenSpec.upto codecFirstSpec)) codecFirstUptoCard

/-- THE SECOND FORM's CARD OF 'gangsawlaw02.CodecCompares'. -/
def codecComparesUptoCard : Claim7 := { stood := { row := codecComparesUptoRow, standIns := [], harness := (true, "40514f4e30e2e814d8b5f70127c84f538ceace12d102eaf17d18a4564461166b"), looks := false }, kinds := [], alts := [], laidByText := true, laidKinds := [.data, .data, .data], laidTests := true, laidLooks := .later }
def CodecComparesUptoCardSaid : Prop := Claim7.holds Tryd.pinned (.plain (OpenSpec.upto codecComparesSpec)) codecComparesUptoCard

/-- THE SECOND FORM's CARD OF 'gangsawlaw02.CodecOrders'. -/
def codecOrdersUptoCard : Claim7 := { stood := { row := codecOrdersUptoRow, standIns := [], harness := (true, "40514f4e30e2e814d8b5f70127c84f538ceace12d102eaf17d18a4564461166b"), looks := false }, kinds := [], alts := [], laidByText := true, laidKinds := [.data, .data, .data], laidTests := true, laidLooks := .later }
def CodecOrdersUptoCardSaid : Prop := Claim7.holds Tryd.pinned (.plain (OpenSpec.upto codecOrdersSpec)) codecOrdersUptoCard

/-- THE SECOND FORM's CARD OF 'gangsawlaw02.CodecDigests'. -/
def codecDigestsUptoCard : Claim7 := { stood := { row := codecDigestsUptoRow, standIns := [], harness := (true, "40514f4e30e2e814d8b5f70127c84f538ceace12d102eaf17d18a4564461166b"), looks := false }, kinds := [], alts := [], laidByText := true, laidKinds := [.data, .data, .data], laidTests := true, laidLooks := .later }
def CodecDigestsUptoCardSaid : Prop := Claim7.holds Tryd.pinned (.plain (OpenSpec.upto codecDigestsSpec)) codecDigestsUptoCard

/-- THE SECOND FORM's CARD OF 'gangsawlaw02.CodecChanges'. -/
def codecChangesUptoCard : Claim7 := { stood := { row := codecChangesUptoRow, standIns := [], harness := (true, "40514f4e30e2e814d8b5f70127c84f538ceace12d102eaf17d18a4564461166b"), looks := false }, kinds := [], alts := [], laidByText := true, laidKinds := [.data, .data, .data], laidTests := true, laidLooks := .later }
def CodecChangesUptoCardSaid : Prop := Claim7.holds Tryd.pinned (.plain (OpenSpec.upto codecChangesSpec)) codecChangesUptoCard
end Rows
end Go.Proofs.YtcmphojichgfeaaDoor
