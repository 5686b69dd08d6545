/-
  DERIVED. GIVEN WITH THE SEED: THE CARDS: each row of YtbkdjlahhcofmaaGreatDoorRows.lean that lists a variable, with what it lists TIED to the program's text (the seventh form; the later family's looks); each row that meets fmt, with fmt's text TOLD by the authors' own Lean function (tested against real Go, not proved from fmt's source: count such statements apart). THE CARD IS WHAT COUNTS. Prove the row's statement (the work); the ties are given (YtbkdjlahhcofmaaGreatDoorTie.lean); close each card by the builder's one call (the guide's Derived/Test/ToyasCard.lean, 'card_holds'). Laid BY PROGRAM, IN A SANDBOX (cutbox-door.mjs). By AI agents, Wed Nov 11 2026. No macro, syntax, notation, axiom, sorry.
-/
import Derived.Test.YtbkdjlahhcofmaaGreatDoorRows
import GoSem.ClaimSeven
namespace Go.Proofs.YtbkdjlahhcofmaaGreatDoor
namespace Rows

/-- THE TIED CARD OF 'cherenkovtop.TopTriggerWhole'. -/
def topTriggerWholeCard : Claim7 := { stood := { row := topTriggerWholeRow, standIns := [], harness := (true, "9fdafd392fc4baf11d1d0a86c4b3daf8f8217a59c4600aeca29490a9de12145c"), looks := true }, kinds := [], alts := [], laidByText := true, laidKinds := [.data, .data, .data, .data, .sentinel, .sentinel, .pinned], laidTests := true, laidLooks := .later }
def TopTriggerWholeCardSaid : Prop := Claim7.holds Tryz.pinned (.plain (OpenSpec.ofChange topTriggerWholeSpec)) topTriggerWholeCard

/-- THE TIED CARD OF 'cherenkovtop.TopAlertMail'. -/
def topAlertMailCard : Claim7 := { stood := { row := topAlertMailRow, standIns := [], harness := (true, "9fdafd392fc4baf11d1d0a86c4b3daf8f8217a59c4600aeca29490a9de12145c"), looks := true }, kinds := [], alts := [], laidByText := true, laidKinds := [.data, .data, .data, .data, .sentinel, .sentinel, .pinned], laidTests := true, laidLooks := .later }
def TopAlertMailCardSaid : Prop := Claim7.holds Tryz.pinned (.plain (OpenSpec.ofChange topAlertMailSpec)) topAlertMailCard

/-- THE TIED CARD OF 'cherenkovlaw03.IcePlaces'. -/
def icePlacesCard : Claim7 := { stood := { row := icePlacesRow, standIns := [], harness := (true, "9fdafd392fc4baf11d1d0a86c4b3daf8f8217a59c4600aeca29490a9de12145c"), looks := true }, kinds := [], alts := [], laidByText := true, laidKinds := [.data], laidTests := true, laidLooks := .later }
def IcePlacesCardSaid : Prop := Claim7.holds Tryz.pinned (.plain (OpenSpec.ofChange icePlacesSpec)) icePlacesCard

/-- THE TIED CARD OF 'cherenkovtop.TopAlertTurning'. -/
def topAlertTurningCard : Claim7 := { stood := { row := topAlertTurningRow, standIns := [], harness := (true, "9fdafd392fc4baf11d1d0a86c4b3daf8f8217a59c4600aeca29490a9de12145c"), looks := true }, kinds := [], alts := [], laidByText := true, laidKinds := [.data, .data, .data, .data, .sentinel, .sentinel, .pinned], laidTests := true, laidLooks := .later }
def TopAlertTurningCardSaid : Prop := Claim7.holds Tryz.pinned (.plain (OpenSpec.ofChange topAlertTurningSpec)) topAlertTurningCard

/-- THE TIED CARD OF 'cherenkovlaw03.IceStrings'. -/
def iceStringsCard : Claim7 := { stood := { row := iceStringsRow, standIns := [], harness := (true, "9fdafd392fc4baf11d1d0a86c4b3daf8f8217a59c4600aeca29490a9de12145c"), looks := true }, kinds := [], alts := [], laidByText := true, laidKinds := [.data, .data, .data, .data, .sentinel, .sentinel, .data, .pinned], laidTests := true, laidLooks := .later }
def IceStringsCardSaid : Prop := Claim7.holds Tryz.pinned (.plain (OpenSpec.ofChange iceStringsSpec)) iceStringsCard

/-- THE TIED CARD OF 'cherenkovlaw04.TriggerStrings'. -/
def triggerStringsCard : Claim7 := { stood := { row := triggerStringsRow, standIns := [], harness := (true, "9fdafd392fc4baf11d1d0a86c4b3daf8f8217a59c4600aeca29490a9de12145c"), looks := true }, kinds := [], alts := [], laidByText := true, laidKinds := [.data, .data, .data, .data, .sentinel, .sentinel, .pinned], laidTests := true, laidLooks := .later }
def TriggerStringsCardSaid : Prop := Claim7.holds Tryz.pinned (.plain (OpenSpec.ofChange triggerStringsSpec)) triggerStringsCard

/-- THE TIED CARD OF 'cherenkovlaw07.AlertStrings'. -/
def alertStringsCard : Claim7 := { stood := { row := alertStringsRow, standIns := [], harness := (true, "9fdafd392fc4baf11d1d0a86c4b3daf8f8217a59c4600aeca29490a9de12145c"), looks := true }, kinds := [], alts := [], laidByText := true, laidKinds := [.data, .data, .data, .data, .sentinel, .sentinel, .pinned], laidTests := true, laidLooks := .later }
def AlertStringsCardSaid : Prop := Claim7.holds Tryz.pinned (.plain (OpenSpec.ofChange alertStringsSpec)) alertStringsCard

/-- THE SECOND FORM's CARD OF 'cherenkovtop.TopTriggerWhole'. -/
def topTriggerWholeUptoCard : Claim7 := { stood := { row := topTriggerWholeUptoRow, standIns := [], harness := (true, "9fdafd392fc4baf11d1d0a86c4b3daf8f8217a59c4600aeca29490a9de12145c"), looks := true }, kinds := [], alts := [], laidByText := true, laidKinds := [.data, .data, .data, .data, .sentinel, .sentinel, .pinned], laidTests := true, laidLooks := .later }
def TopTriggerWholeUptoCardSaid : Prop := Claim7.holds Tryz.pinned (.plain (OpenSpec.upto topTriggerWholeSpec)) topTriggerWholeUptoCard

/-- THE SECOND FORM's CARD OF 'cherenkovtop.TopAlertMail'. -/
def topAlertMailUptoCard : Claim7 := { stood := { row := topAlertMailUptoRow, standIns := [], harness := (true, "9fdafd392fc4baf11d1d0a86c4b3daf8f8217a59c4600aeca29490a9de12145c"), looks := true }, kinds := [], alts := [], laidByText := true, laidKinds := [.data, .data, .data, .data, .sentinel, .sentinel, .pinned], laidTests := true, laidLooks := .later }
def TopAlertMailUptoCardSaid : Prop := Claim7.holds Tryz.pinned (.plain (OpenSpec.upto topAlertMailSpec)) topAlertMailUptoCard

/-- THE SECOND FORM's CARD OF 'cherenkovlaw03.IcePlaces'. -/
def icePlacesUptoCard : Claim7 := { stood := { row := icePlacesUptoRow, standIns := [], harness := (true, "9fdafd392fc4baf11d1d0a86c4b3daf8f8217a59c4600aeca29490a9de12145c"), looks := true }, kinds := [], alts := [], laidByText := true, laidKinds := [.data], laidTests := true, laidLooks := .later }
def IcePlacesUptoCardSaid : Prop := Claim7.holds Tryz.pinned (.plain (OpenSpec.upto icePlacesSpec)) icePlacesUptoCard

/-- THE SECOND FORM's CARD OF 'cherenkovtop.TopAlertTurning'. -/
def topAlertTurningUptoCard : Claim7 := { stood := { row := topAlertTurningUptoRow, standIns := [], harness := (true, "9fdafd392fc4baf11d1d0a86c4b3daf8f8217a59c4600aeca29490a9de12145c"), looks := true }, kinds := [], alts := [], laidByText := true, laidKinds := [.data, .data, .data, .data, .sentinel, .sentinel, .pinned], laidTests := true, laidLooks := .later }
def TopAlertTurningUptoCardSaid : Prop := Claim7.holds Tryz.pinned (.plain (OpenSpec.upto topAlertTurningSpec)) topAlertTurningUptoCard

/-- THE SECOND FORM's CARD OF 'cherenkovlaw03.IceStrings'. -/
def iceStringsUptoCard : Claim7 := { stood := { row := iceStringsUptoRow, standIns := [], harness := (true, "9fdafd392fc4baf11d1d0a86c4b3daf8f8217a59c4600aeca29490a9de12145c"), looks := true }, kinds := [], alts := [], laidByText := true, laidKinds := [.data, .data, .data, .data, .sentinel, .sentinel, .data, .pinned], laidTests := true, laidLooks := .later }
def IceStringsUptoCardSaid : Prop := Claim7.holds Tryz.pinned (.plain (OpenSpec.upto iceStringsSpec)) iceStringsUptoCard

/-- THE SECOND FORM's CARD OF 'cherenkovlaw04.TriggerStrings'. -/
def triggerStringsUptoCard : Claim7 := { stood := { row := triggerStringsUptoRow, standIns := [], harness := (true, "9fdafd392fc4baf11d1d0a86c4b3daf8f8217a59c4600aeca29490a9de12145c"), looks := true }, kinds := [], alts := [], laidByText := true, laidKinds := [.data, .data, .data, .data, .sentinel, .sentinel, .pinned], laidTests := true, laidLooks := .later }
def TriggerStringsUptoCardSaid : Prop := Claim7.holds Tryz.pinned (.plain (OpenSpec.upto triggerStringsSpec)) triggerStringsUptoCard

/-- THE SECOND FORM's CARD OF 'cherenkovlaw07.AlertStrings'. -/
def alertStringsUptoCard : Claim7 := { stood := { row := alertStringsUptoRow, standIns := [], harness := (true, "9fdafd392fc4baf11d1d0a86c4b3daf8f8217a59c4600aeca29490a9de12145c"), looks := true }, kinds := [], alts := [], laidByText := true, laidKinds := [.data, .data, .data, .data, .sentinel, .sentinel, .pinned], laidTests := true, laidLooks := .later }
def AlertStringsUptoCardSaid : Prop := Claim7.holds Tryz.pinned (.plain (OpenSpec.upto alertStringsSpec)) alertStringsUptoCard
end Rows
end Go.Proofs.YtbkdjlahhcofmaaGreatDoor
