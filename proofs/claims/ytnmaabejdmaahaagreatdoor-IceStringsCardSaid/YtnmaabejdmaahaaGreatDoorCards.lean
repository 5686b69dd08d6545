/-
  DERIVED. GIVEN WITH THE SEED: THE CARDS: each row of YtnmaabejdmaahaaGreatDoorRows.lean that lists a variable, with what it lists TIED to the program's text (the seventh form; the later family's looks); each row that meets fmt, with fmt's text TOLD by the authors' own Lean function (tested against real Go, not proved from fmt's source: count such statements apart). THE CARD IS WHAT COUNTS. Prove the row's statement (the work); the ties are given (YtnmaabejdmaahaaGreatDoorTie.lean); close each card by the builder's one call (the guide's Derived/Test/ToyasCard.lean, 'card_holds'). Laid BY PROGRAM, IN A SANDBOX (cutbox-door.mjs). By AI agents, Wed Nov 11 2026. No macro, syntax, notation, axiom, sorry.
-/
import Derived.Test.YtnmaabejdmaahaaGreatDoorRows
import GoSem.ClaimSeven
namespace Go.Proofs.YtnmaabejdmaahaaGreatDoor
namespace Rows

/-- THE TIED CARD OF 'cherenkovlaw03.IcePlaces'. -/
def icePlacesCard : Claim7 := { stood := { row := icePlacesRow, standIns := [], harness := (true, "781787c6fb4694554b0edfb58abee9572b332e0763ba634bdb92583c9e903b31"), looks := true }, kinds := [], alts := [], laidByText := true, laidKinds := [.data], laidTests := true, laidLooks := .later }
def IcePlacesCardSaid : Prop := Claim7.holds Tryz.pinned (.plain (OpenSpec.ofChange icePlacesSpec)) icePlacesCard

/-- THE TIED CARD OF 'cherenkovlaw03.IceStrings'. -/
def iceStringsCard : Claim7 := { stood := { row := iceStringsRow, standIns := [], harness := (true, "781787c6fb4694554b0edfb58abee9572b332e0763ba634bdb92583c9e903b31"), looks := true }, kinds := [], alts := [], laidByText := true, laidKinds := [.data, .data, .data, .data, .sentinel, .sentinel, .data, .pinned], laidTests := true, laidLooks := .later }
def IceStringsCardSaid : Prop := Claim7.holds Tryz.pinned (.plain (OpenSpec.ofChange iceStringsSpec)) iceStringsCard

/-- THE SECOND FORM's CARD OF 'cherenkovlaw03.IcePlaces'. -/
def icePlacesUptoCard : Claim7 := { stood := { row := icePlacesUptoRow, standIns := [], harness := (true, "781787c6fb4694554b0edfb58abee9572b332e0763ba634bdb92583c9e903b31"), looks := true }, kinds := [], alts := [], laidByText := true, laidKinds := [.data], laidTests := true, laidLooks := .later }
def IcePlacesUptoCardSaid : Prop := Claim7.holds Tryz.pinned (.plain (OpenSpec.upto icePlacesSpec)) icePlacesUptoCard

/-- THE SECOND FORM's CARD OF 'cherenkovlaw03.IceStrings'. -/
def iceStringsUptoCard : Claim7 := { stood := { row := iceStringsUptoRow, standIns := [], harness := (true, "781787c6fb4694554b0edfb58abee9572b332e0763ba634bdb92583c9e903b31"), looks := true }, kinds := [], alts := [], laidByText := true, laidKinds := [.data, .data, .data, .data, .sentinel, .sentinel, .data, .pinned], laidTests := true, laidLooks := .later }
def IceStringsUptoCardSaid : Prop := Claim7.holds Tryz.pinned (.plain (OpenSpec.upto iceStringsSpec)) iceStringsUptoCard
end Rows
end Go.Proofs.YtnmaabejdmaahaaGreatDoor
