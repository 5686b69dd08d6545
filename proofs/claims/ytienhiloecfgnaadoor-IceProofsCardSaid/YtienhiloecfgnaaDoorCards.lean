/-
  DERIVED. GIVEN WITH THE SEED: THE CARDS: each row of YtienhiloecfgnaaDoorRows.lean that lists a variable, with what it lists TIED to the program's text (the seventh form; the later family's looks); each row that meets fmt, with fmt's text TOLD by the authors' own Lean function (tested against real Go, not proved from fmt's source: count such statements apart). THE CARD IS WHAT COUNTS. Prove the row's statement (the work); the ties are given (YtienhiloecfgnaaDoorTie.lean); close each card by the builder's one call (the guide's Derived/Test/ToyasCard.lean, 'card_holds'). Laid BY PROGRAM, IN A SANDBOX (cutbox-door.mjs). By AI agents, Wed Nov 11 2026. No macro, syntax, notation, axiom, sorry.
-/
import Derived.Test.YtienhiloecfgnaaDoorRows
import GoSem.ClaimSeven
namespace Go.Proofs.YtienhiloecfgnaaDoor
namespace Rows

/-- THE TIED CARD OF 'cherenkovlaw03.IceTurned'. -/
def iceTurnedCard : Claim7 := { stood := { row := iceTurnedRow, standIns := [], harness := (true, "8720faff1f76d97852de98676b3851767d0d17770b02382d2d65271149a7f855"), looks := false }, kinds := [], alts := [], laidByText := true, laidKinds := [.data], laidTests := true, laidLooks := .later }
def IceTurnedCardSaid : Prop := Claim7.holds Tryd.pinned (.plain (OpenSpec.ofChange iceTurnedSpec)) iceTurnedCard

/-- THE TIED CARD OF 'cherenkovlaw03.IceModels'. -/
def iceModelsCard : Claim7 := { stood := { row := iceModelsRow, standIns := [], harness := (true, "8720faff1f76d97852de98676b3851767d0d17770b02382d2d65271149a7f855"), looks := false }, kinds := [], alts := [], laidByText := true, laidKinds := [.data], laidTests := true, laidLooks := .later }
def IceModelsCardSaid : Prop := Claim7.holds Tryd.pinned (.plain (OpenSpec.ofChange iceModelsSpec)) iceModelsCard

/-- THE TIED CARD OF 'cherenkovlaw03.IceGrids'. -/
def iceGridsCard : Claim7 := { stood := { row := iceGridsRow, standIns := [], harness := (true, "8720faff1f76d97852de98676b3851767d0d17770b02382d2d65271149a7f855"), looks := false }, kinds := [], alts := [], laidByText := true, laidKinds := [.data], laidTests := true, laidLooks := .later }
def IceGridsCardSaid : Prop := Claim7.holds Tryd.pinned (.plain (OpenSpec.ofChange iceGridsSpec)) iceGridsCard

/-- THE TIED CARD OF 'cherenkovlaw03.IcePhotons'. -/
def icePhotonsCard : Claim7 := { stood := { row := icePhotonsRow, standIns := [], harness := (true, "8720faff1f76d97852de98676b3851767d0d17770b02382d2d65271149a7f855"), looks := false }, kinds := [], alts := [], laidByText := true, laidKinds := [.data], laidTests := true, laidLooks := .later }
def IcePhotonsCardSaid : Prop := Claim7.holds Tryd.pinned (.plain (OpenSpec.ofChange icePhotonsSpec)) icePhotonsCard

/-- THE TIED CARD OF 'cherenkovlaw03.IceKept'. -/
def iceKeptCard : Claim7 := { stood := { row := iceKeptRow, standIns := [], harness := (true, "8720faff1f76d97852de98676b3851767d0d17770b02382d2d65271149a7f855"), looks := false }, kinds := [], alts := [], laidByText := true, laidKinds := [.data], laidTests := true, laidLooks := .later }
def IceKeptCardSaid : Prop := Claim7.holds Tryd.pinned (.plain (OpenSpec.ofChange iceKeptSpec)) iceKeptCard

/-- THE TIED CARD OF 'cherenkovlaw03.IceHoles'. -/
def iceHolesCard : Claim7 := { stood := { row := iceHolesRow, standIns := [], harness := (true, "8720faff1f76d97852de98676b3851767d0d17770b02382d2d65271149a7f855"), looks := false }, kinds := [], alts := [], laidByText := true, laidKinds := [.data], laidTests := true, laidLooks := .later }
def IceHolesCardSaid : Prop := Claim7.holds Tryd.pinned (.plain (OpenSpec.ofChange iceHolesSpec)) iceHolesCard

/-- THE TIED CARD OF 'cherenkovlaw03.IceDown'. -/
def iceDownCard : Claim7 := { stood := { row := iceDownRow, standIns := [], harness := (true, "8720faff1f76d97852de98676b3851767d0d17770b02382d2d65271149a7f855"), looks := false }, kinds := [], alts := [], laidByText := true, laidKinds := [.data], laidTests := true, laidLooks := .later }
def IceDownCardSaid : Prop := Claim7.holds Tryd.pinned (.plain (OpenSpec.ofChange iceDownSpec)) iceDownCard

/-- THE TIED CARD OF 'cherenkovlaw03.IceTimes'. -/
def iceTimesCard : Claim7 := { stood := { row := iceTimesRow, standIns := [], harness := (true, "8720faff1f76d97852de98676b3851767d0d17770b02382d2d65271149a7f855"), looks := false }, kinds := [], alts := [], laidByText := true, laidKinds := [.data], laidTests := true, laidLooks := .later }
def IceTimesCardSaid : Prop := Claim7.holds Tryd.pinned (.plain (OpenSpec.ofChange iceTimesSpec)) iceTimesCard

/-- THE TIED CARD OF 'cherenkovlaw03.IceEveryModel'. -/
def iceEveryModelCard : Claim7 := { stood := { row := iceEveryModelRow, standIns := [], harness := (true, "8720faff1f76d97852de98676b3851767d0d17770b02382d2d65271149a7f855"), looks := false }, kinds := [], alts := [], laidByText := true, laidKinds := [.data], laidTests := true, laidLooks := .later }
def IceEveryModelCardSaid : Prop := Claim7.holds Tryd.pinned (.plain (OpenSpec.ofChange iceEveryModelSpec)) iceEveryModelCard

/-- THE TIED CARD OF 'cherenkovlaw03.IceWays'. -/
def iceWaysCard : Claim7 := { stood := { row := iceWaysRow, standIns := [], harness := (true, "8720faff1f76d97852de98676b3851767d0d17770b02382d2d65271149a7f855"), looks := false }, kinds := [], alts := [], laidByText := true, laidKinds := [.data], laidTests := true, laidLooks := .later }
def IceWaysCardSaid : Prop := Claim7.holds Tryd.pinned (.plain (OpenSpec.ofChange iceWaysSpec)) iceWaysCard

/-- THE TIED CARD OF 'cherenkovlaw03.IceProofs'. -/
def iceProofsCard : Claim7 := { stood := { row := iceProofsRow, standIns := [], harness := (true, "8720faff1f76d97852de98676b3851767d0d17770b02382d2d65271149a7f855"), looks := false }, kinds := [], alts := [], laidByText := true, laidKinds := [.data], laidTests := true, laidLooks := .later }
def IceProofsCardSaid : Prop := Claim7.holds Tryd.pinned (.plain (OpenSpec.ofChange iceProofsSpec)) iceProofsCard

/-- THE TIED CARD OF 'cherenkovlaw03.IceFirst'. -/
def iceFirstCard : Claim7 := { stood := { row := iceFirstRow, standIns := [], harness := (true, "8720faff1f76d97852de98676b3851767d0d17770b02382d2d65271149a7f855"), looks := false }, kinds := [], alts := [], laidByText := true, laidKinds := [.data], laidTests := true, laidLooks := .later }
def IceFirstCardSaid : Prop := Claim7.holds Tryd.pinned (.plain (OpenSpec.ofChange iceFirstSpec)) iceFirstCard

/-- THE SECOND FORM's CARD OF 'cherenkovlaw03.IceTurned'. -/
def iceTurnedUptoCard : Claim7 := { stood := { row := iceTurnedUptoRow, standIns := [], harness := (true, "8720faff1f76d97852de98676b3851767d0d17770b02382d2d65271149a7f855"), looks := false }, kinds := [], alts := [], laidByText := true, laidKinds := [.data], laidTests := true, laidLooks := .later }
def IceTurnedUptoCardSaid : Prop := Claim7.holds Tryd.pinned (.plain (OpenSpec.upto iceTurnedSpec)) iceTurnedUptoCard

/-- THE SECOND FORM's CARD OF 'cherenkovlaw03.IceModels'. -/
def iceModelsUptoCard : Claim7 := { stood := { row := iceModelsUptoRow, standIns := [], harness := (true, "8720faff1f76d97852de98676b3851767d0d17770b02382d2d65271149a7f855"), looks := false }, kinds := [], alts := [], laidByText := true, laidKinds := [.data], laidTests := true, laidLooks := .later }
def IceModelsUptoCardSaid : Prop := Claim7.holds Tryd.pinned (.plain (OpenSpec.upto iceModelsSpec)) iceModelsUptoCard

/-- THE SECOND FORM's CARD OF 'cherenkovlaw03.IceGrids'. -/
def iceGridsUptoCard : Claim7 := { stood := { row := iceGridsUptoRow, standIns := [], harness := (true, "8720faff1f76d97852de98676b3851767d0d17770b02382d2d65271149a7f855"), looks := false }, kinds := [], alts := [], laidByText := true, laidKinds := [.data], laidTests := true, laidLooks := .later }
def IceGridsUptoCardSaid : Prop := Claim7.holds Tryd.pinned (.plain (OpenSpec.upto iceGridsSpec)) iceGridsUptoCard

/-- THE SECOND FORM's CARD OF 'cherenkovlaw03.IcePhotons'. -/
def icePhotonsUptoCard : Claim7 := { stood := { row := icePhotonsUptoRow, standIns := [], harness := (true, "8720faff1f76d97852de98676b3851767d0d17770b02382d2d65271149a7f855"), looks := false }, kinds := [], alts := [], laidByText := true, laidKinds := [.data], laidTests := true, laidLooks := .later }
def IcePhotonsUptoCardSaid : Prop := Claim7.holds Tryd.pinned (.plain (OpenSpec.upto icePhotonsSpec)) icePhotonsUptoCard

/-- THE SECOND FORM's CARD OF 'cherenkovlaw03.IceKept'. -/
def iceKeptUptoCard : Claim7 := { stood := { row := iceKeptUptoRow, standIns := [], harness := (true, "8720faff1f76d97852de98676b3851767d0d17770b02382d2d65271149a7f855"), looks := false }, kinds := [], alts := [], laidByText := true, laidKinds := [.data], laidTests := true, laidLooks := .later }
def IceKeptUptoCardSaid : Prop := Claim7.holds Tryd.pinned (.plain (OpenSpec.upto iceKeptSpec)) iceKeptUptoCard

/-- THE SECOND FORM's CARD OF 'cherenkovlaw03.IceHoles'. -/
def iceHolesUptoCard : Claim7 := { stood := { row := iceHolesUptoRow, standIns := [], harness := (true, "8720faff1f76d97852de98676b3851767d0d17770b02382d2d65271149a7f855"), looks := false }, kinds := [], alts := [], laidByText := true, laidKinds := [.data], laidTests := true, laidLooks := .later }
def IceHolesUptoCardSaid : Prop := Claim7.holds Tryd.pinned (.plain (OpenSpec.upto iceHolesSpec)) iceHolesUptoCard

/-- THE SECOND FORM's CARD OF 'cherenkovlaw03.IceDown'. -/
def iceDownUptoCard : Claim7 := { stood := { row := iceDownUptoRow, standIns := [], harness := (true, "8720faff1f76d97852de98676b3851767d0d17770b02382d2d65271149a7f855"), looks := false }, kinds := [], alts := [], laidByText := true, laidKinds := [.data], laidTests := true, laidLooks := .later }
def IceDownUptoCardSaid : Prop := Claim7.holds Tryd.pinned (.plain (OpenSpec.upto iceDownSpec)) iceDownUptoCard

/-- THE SECOND FORM's CARD OF 'cherenkovlaw03.IceTimes'. -/
def iceTimesUptoCard : Claim7 := { stood := { row := iceTimesUptoRow, standIns := [], harness := (true, "8720faff1f76d97852de98676b3851767d0d17770b02382d2d65271149a7f855"), looks := false }, kinds := [], alts := [], laidByText := true, laidKinds := [.data], laidTests := true, laidLooks := .later }
def IceTimesUptoCardSaid : Prop := Claim7.holds Tryd.pinned (.plain (OpenSpec.upto iceTimesSpec)) iceTimesUptoCard

/-- THE SECOND FORM's CARD OF 'cherenkovlaw03.IceEveryModel'. -/
def iceEveryModelUptoCard : Claim7 := { stood := { row := iceEveryModelUptoRow, standIns := [], harness := (true, "8720faff1f76d97852de98676b3851767d0d17770b02382d2d65271149a7f855"), looks := false }, kinds := [], alts := [], laidByText := true, laidKinds := [.data], laidTests := true, laidLooks := .later }
def IceEveryModelUptoCardSaid : Prop := Claim7.holds Tryd.pinned (.plain (OpenSpec.upto iceEveryModelSpec)) iceEveryModelUptoCard

/-- THE SECOND FORM's CARD OF 'cherenkovlaw03.IceWays'. -/
def iceWaysUptoCard : Claim7 := { stood := { row := iceWaysUptoRow, standIns := [], harness := (true, "8720faff1f76d97852de98676b3851767d0d17770b02382d2d65271149a7f855"), looks := false }, kinds := [], alts := [], laidByText := true, laidKinds := [.data], laidTests := true, laidLooks := .later }
def IceWaysUptoCardSaid : Prop := Claim7.holds Tryd.pinned (.plain (OpenSpec.upto iceWaysSpec)) iceWaysUptoCard

/-- THE SECOND FORM's CARD OF 'cherenkovlaw03.IceProofs'. -/
def iceProofsUptoCard : Claim7 := { stood := { row := iceProofsUptoRow, standIns := [], harness := (true, "8720faff1f76d97852de98676b3851767d0d17770b02382d2d65271149a7f855"), looks := false }, kinds := [], alts := [], laidByText := true, laidKinds := [.data], laidTests := true, laidLooks := .later }
def IceProofsUptoCardSaid : Prop := Claim7.holds Tryd.pinned (.plain (OpenSpec.upto iceProofsSpec)) iceProofsUptoCard

/-- THE SECOND FORM's CARD OF 'cherenkovlaw03.IceFirst'. -/
def iceFirstUptoCard : Claim7 := { stood := { row := iceFirstUptoRow, standIns := [], harness := (true, "8720faff1f76d97852de98676b3851767d0d17770b02382d2d65271149a7f855"), looks := false }, kinds := [], alts := [], laidByText := true, laidKinds := [.data], laidTests := true, laidLooks := .later }
def IceFirstUptoCardSaid : Prop := Claim7.holds Tryd.pinned (.plain (OpenSpec.upto iceFirstSpec)) iceFirstUptoCard
end Rows
end Go.Proofs.YtienhiloecfgnaaDoor
