/-
  No cell of these rows narrows 'for every input' (looked for: loops, veiled, ifaces, maps, wideKeys, modest, calm, conditions, laid).
  DERIVED. THE GIVEN ROWS OF THIS SEAT. 12 by the template 'for every input the law returns true; each argument reads behind the call as it read before'; 0 by the template 'total and deterministic' (their statements: YtenkgipcblfocaaGreatTotals.lean).
  GIVEN WITH THE SEED: the statements are not yours to turn. If you find one false, say at which input.
  Laid BY PROGRAM, IN A SANDBOX (cutbox-rows.mjs): the forced cells as the released guide's own fill.sh prints them over the translation 062fc1f676511d84… (all of the seat's roots in one cut). By AI agents, Wed Nov 11 2026. No macro, syntax, notation, axiom, sorry.
-/
import Derived.Test.YtenkgipcblfocaaGreatChecked
import GoSem.Claim
import GoSem.ClaimJoined
import GoSem.ClaimMapViews
import Derived.JoinedTies
import Derived.KernelRfl
namespace Go.Proofs.YtenkgipcblfocaaGreat
/- THE CELL 'sum', in the pinned program and in every row, IS THE sha256 OF THE DUMP (.gsa) THAT YtenkgipcblfocaaGreatProg.lean LOADS. Nothing in Lean hashes anything: it is a label: what it is worth is what the hold of that sum in a sandbox is worth. -/
noncomputable def Tryz.pinned : Pinned := { name := "ytenkgipcblfocaagreat", sum := "062fc1f676511d842b69cc078f869cf45ebf47b28b70e5ecc343132320c92b57", checked := Tryz.checked }
namespace Rows
def none {H : Type} : Left H := { results := [], args := [] }

/-- 'cherenkovlaw07.AlertTurned': WHATEVER THE INPUT: true; the input reads as it did. -/
def alertTurnedSpec : ChangeSpec := { name := "alertTurned", fn := fun _ => fun
  | [d1, d2] => { results := [.lit (.bool true)], args := [d1, d2] }
  | _ => none }
def alertTurnedRow : OpenClaim := { program := "ytenkgipcblfocaagreat", sum := "062fc1f676511d842b69cc078f869cf45ebf47b28b70e5ecc343132320c92b57", func := "cherenkov/cherenkovlaw07.AlertTurned", spec := "alertTurned", unfollowed := true, recurses := true, apart := false }
def AlertTurnedSaid : Prop := alertTurnedRow.holds Tryz.pinned (OpenSpec.ofChange alertTurnedSpec)

/-- ITS FALSE NEIGHBOUR: 'it returns false'. Refute it at one input. -/
def alertTurnedWrong : ChangeSpec := { name := "alertTurned", fn := fun _ => fun
  | [d1, d2] => { results := [.lit (.bool false)], args := [d1, d2] }
  | _ => none }
def AlertTurnedWrongFalsely : Prop := alertTurnedRow.holds Tryz.pinned (OpenSpec.ofChange alertTurnedWrong)

/-- 'cherenkovlaw07.AlertKnown': WHATEVER THE INPUT: true; the input reads as it did. -/
def alertKnownSpec : ChangeSpec := { name := "alertKnown", fn := fun _ => fun
  | [d1, d2, d3] => { results := [.lit (.bool true)], args := [d1, d2, d3] }
  | _ => none }
def alertKnownRow : OpenClaim := { program := "ytenkgipcblfocaagreat", sum := "062fc1f676511d842b69cc078f869cf45ebf47b28b70e5ecc343132320c92b57", func := "cherenkov/cherenkovlaw07.AlertKnown", spec := "alertKnown", unfollowed := true, recurses := true, apart := false }
def AlertKnownSaid : Prop := alertKnownRow.holds Tryz.pinned (OpenSpec.ofChange alertKnownSpec)

/-- ITS FALSE NEIGHBOUR: 'it returns false'. Refute it at one input. -/
def alertKnownWrong : ChangeSpec := { name := "alertKnown", fn := fun _ => fun
  | [d1, d2, d3] => { results := [.lit (.bool false)], args := [d1, d2, d3] }
  | _ => none }
def AlertKnownWrongFalsely : Prop := alertKnownRow.holds Tryz.pinned (OpenSpec.ofChange alertKnownWrong)

/-- 'cherenkovlaw07.AlertActs': WHATEVER THE INPUT: true; the input reads as it did. -/
def alertActsSpec : ChangeSpec := { name := "alertActs", fn := fun _ => fun
  | [d1, d2, d3] => { results := [.lit (.bool true)], args := [d1, d2, d3] }
  | _ => none }
def alertActsRow : OpenClaim := { program := "ytenkgipcblfocaagreat", sum := "062fc1f676511d842b69cc078f869cf45ebf47b28b70e5ecc343132320c92b57", func := "cherenkov/cherenkovlaw07.AlertActs", spec := "alertActs", unfollowed := true, recurses := true, apart := false }
def AlertActsSaid : Prop := alertActsRow.holds Tryz.pinned (OpenSpec.ofChange alertActsSpec)

/-- ITS FALSE NEIGHBOUR: 'it returns false'. Refute it at one input. -/
def alertActsWrong : ChangeSpec := { name := "alertActs", fn := fun _ => fun
  | [d1, d2, d3] => { results := [.lit (.bool false)], args := [d1, d2, d3] }
  | _ => none }
def AlertActsWrongFalsely : Prop := alertActsRow.holds Tryz.pinned (OpenSpec.ofChange alertActsWrong)

/-- 'cherenkovlaw07.AlertRegions': WHATEVER THE INPUT: true; the input reads as it did. -/
def alertRegionsSpec : ChangeSpec := { name := "alertRegions", fn := fun _ => fun
  | [d1, d2, d3] => { results := [.lit (.bool true)], args := [d1, d2, d3] }
  | _ => none }
def alertRegionsRow : OpenClaim := { program := "ytenkgipcblfocaagreat", sum := "062fc1f676511d842b69cc078f869cf45ebf47b28b70e5ecc343132320c92b57", func := "cherenkov/cherenkovlaw07.AlertRegions", spec := "alertRegions", unfollowed := true, recurses := true, apart := false }
def AlertRegionsSaid : Prop := alertRegionsRow.holds Tryz.pinned (OpenSpec.ofChange alertRegionsSpec)

/-- ITS FALSE NEIGHBOUR: 'it returns false'. Refute it at one input. -/
def alertRegionsWrong : ChangeSpec := { name := "alertRegions", fn := fun _ => fun
  | [d1, d2, d3] => { results := [.lit (.bool false)], args := [d1, d2, d3] }
  | _ => none }
def AlertRegionsWrongFalsely : Prop := alertRegionsRow.holds Tryz.pinned (OpenSpec.ofChange alertRegionsWrong)

/-- 'cherenkovlaw07.AlertSmallest': WHATEVER THE INPUT: true; the input reads as it did. -/
def alertSmallestSpec : ChangeSpec := { name := "alertSmallest", fn := fun _ => fun
  | [d1, d2, d3] => { results := [.lit (.bool true)], args := [d1, d2, d3] }
  | _ => none }
def alertSmallestRow : OpenClaim := { program := "ytenkgipcblfocaagreat", sum := "062fc1f676511d842b69cc078f869cf45ebf47b28b70e5ecc343132320c92b57", func := "cherenkov/cherenkovlaw07.AlertSmallest", spec := "alertSmallest", unfollowed := true, recurses := true, apart := false }
def AlertSmallestSaid : Prop := alertSmallestRow.holds Tryz.pinned (OpenSpec.ofChange alertSmallestSpec)

/-- ITS FALSE NEIGHBOUR: 'it returns false'. Refute it at one input. -/
def alertSmallestWrong : ChangeSpec := { name := "alertSmallest", fn := fun _ => fun
  | [d1, d2, d3] => { results := [.lit (.bool false)], args := [d1, d2, d3] }
  | _ => none }
def AlertSmallestWrongFalsely : Prop := alertSmallestRow.holds Tryz.pinned (OpenSpec.ofChange alertSmallestWrong)

/-- 'cherenkovlaw07.AlertAllWhoHad': WHATEVER THE INPUT: true; the input reads as it did. -/
def alertAllWhoHadSpec : ChangeSpec := { name := "alertAllWhoHad", fn := fun _ => fun
  | [d1, d2] => { results := [.lit (.bool true)], args := [d1, d2] }
  | _ => none }
def alertAllWhoHadRow : OpenClaim := { program := "ytenkgipcblfocaagreat", sum := "062fc1f676511d842b69cc078f869cf45ebf47b28b70e5ecc343132320c92b57", func := "cherenkov/cherenkovlaw07.AlertAllWhoHad", spec := "alertAllWhoHad", unfollowed := true, recurses := true, apart := false }
def AlertAllWhoHadSaid : Prop := alertAllWhoHadRow.holds Tryz.pinned (OpenSpec.ofChange alertAllWhoHadSpec)

/-- ITS FALSE NEIGHBOUR: 'it returns false'. Refute it at one input. -/
def alertAllWhoHadWrong : ChangeSpec := { name := "alertAllWhoHad", fn := fun _ => fun
  | [d1, d2] => { results := [.lit (.bool false)], args := [d1, d2] }
  | _ => none }
def AlertAllWhoHadWrongFalsely : Prop := alertAllWhoHadRow.holds Tryz.pinned (OpenSpec.ofChange alertAllWhoHadWrong)

/-- 'cherenkovlaw07.AlertMessages': WHATEVER THE INPUT: true; the input reads as it did. -/
def alertMessagesSpec : ChangeSpec := { name := "alertMessages", fn := fun _ => fun
  | [d] => { results := [.lit (.bool true)], args := [d] }
  | _ => none }
def alertMessagesRow : OpenClaim := { program := "ytenkgipcblfocaagreat", sum := "062fc1f676511d842b69cc078f869cf45ebf47b28b70e5ecc343132320c92b57", func := "cherenkov/cherenkovlaw07.AlertMessages", spec := "alertMessages", unfollowed := true, recurses := true, apart := false }
def AlertMessagesSaid : Prop := alertMessagesRow.holds Tryz.pinned (OpenSpec.ofChange alertMessagesSpec)

/-- ITS FALSE NEIGHBOUR: 'it returns false'. Refute it at one input. -/
def alertMessagesWrong : ChangeSpec := { name := "alertMessages", fn := fun _ => fun
  | [d] => { results := [.lit (.bool false)], args := [d] }
  | _ => none }
def AlertMessagesWrongFalsely : Prop := alertMessagesRow.holds Tryz.pinned (OpenSpec.ofChange alertMessagesWrong)

/-- 'cherenkovlaw07.AlertOnTime': WHATEVER THE INPUT: true; the input reads as it did. -/
def alertOnTimeSpec : ChangeSpec := { name := "alertOnTime", fn := fun _ => fun
  | [d1, d2] => { results := [.lit (.bool true)], args := [d1, d2] }
  | _ => none }
def alertOnTimeRow : OpenClaim := { program := "ytenkgipcblfocaagreat", sum := "062fc1f676511d842b69cc078f869cf45ebf47b28b70e5ecc343132320c92b57", func := "cherenkov/cherenkovlaw07.AlertOnTime", spec := "alertOnTime", unfollowed := true, recurses := true, apart := false }
def AlertOnTimeSaid : Prop := alertOnTimeRow.holds Tryz.pinned (OpenSpec.ofChange alertOnTimeSpec)

/-- ITS FALSE NEIGHBOUR: 'it returns false'. Refute it at one input. -/
def alertOnTimeWrong : ChangeSpec := { name := "alertOnTime", fn := fun _ => fun
  | [d1, d2] => { results := [.lit (.bool false)], args := [d1, d2] }
  | _ => none }
def AlertOnTimeWrongFalsely : Prop := alertOnTimeRow.holds Tryz.pinned (OpenSpec.ofChange alertOnTimeWrong)

/-- 'cherenkovlaw07.AlertCoinciding': WHATEVER THE INPUT: true; the input reads as it did. -/
def alertCoincidingSpec : ChangeSpec := { name := "alertCoinciding", fn := fun _ => fun
  | [d1, d2, d3] => { results := [.lit (.bool true)], args := [d1, d2, d3] }
  | _ => none }
def alertCoincidingRow : OpenClaim := { program := "ytenkgipcblfocaagreat", sum := "062fc1f676511d842b69cc078f869cf45ebf47b28b70e5ecc343132320c92b57", func := "cherenkov/cherenkovlaw07.AlertCoinciding", spec := "alertCoinciding", unfollowed := true, recurses := true, apart := false }
def AlertCoincidingSaid : Prop := alertCoincidingRow.holds Tryz.pinned (OpenSpec.ofChange alertCoincidingSpec)

/-- ITS FALSE NEIGHBOUR: 'it returns false'. Refute it at one input. -/
def alertCoincidingWrong : ChangeSpec := { name := "alertCoinciding", fn := fun _ => fun
  | [d1, d2, d3] => { results := [.lit (.bool false)], args := [d1, d2, d3] }
  | _ => none }
def AlertCoincidingWrongFalsely : Prop := alertCoincidingRow.holds Tryz.pinned (OpenSpec.ofChange alertCoincidingWrong)

/-- 'cherenkovlaw07.AlertCells': WHATEVER THE INPUT: true; the input reads as it did. -/
def alertCellsSpec : ChangeSpec := { name := "alertCells", fn := fun _ => fun
  | [d1, d2, d3] => { results := [.lit (.bool true)], args := [d1, d2, d3] }
  | _ => none }
def alertCellsRow : OpenClaim := { program := "ytenkgipcblfocaagreat", sum := "062fc1f676511d842b69cc078f869cf45ebf47b28b70e5ecc343132320c92b57", func := "cherenkov/cherenkovlaw07.AlertCells", spec := "alertCells", unfollowed := true, recurses := true, apart := false }
def AlertCellsSaid : Prop := alertCellsRow.holds Tryz.pinned (OpenSpec.ofChange alertCellsSpec)

/-- ITS FALSE NEIGHBOUR: 'it returns false'. Refute it at one input. -/
def alertCellsWrong : ChangeSpec := { name := "alertCells", fn := fun _ => fun
  | [d1, d2, d3] => { results := [.lit (.bool false)], args := [d1, d2, d3] }
  | _ => none }
def AlertCellsWrongFalsely : Prop := alertCellsRow.holds Tryz.pinned (OpenSpec.ofChange alertCellsWrong)

/-- 'cherenkovlaw07.AlertEqualAreas': WHATEVER THE INPUT: true; the input reads as it did. -/
def alertEqualAreasSpec : ChangeSpec := { name := "alertEqualAreas", fn := fun _ => fun
  | [d1, d2] => { results := [.lit (.bool true)], args := [d1, d2] }
  | _ => none }
def alertEqualAreasRow : OpenClaim := { program := "ytenkgipcblfocaagreat", sum := "062fc1f676511d842b69cc078f869cf45ebf47b28b70e5ecc343132320c92b57", func := "cherenkov/cherenkovlaw07.AlertEqualAreas", spec := "alertEqualAreas", unfollowed := true, recurses := true, apart := false }
def AlertEqualAreasSaid : Prop := alertEqualAreasRow.holds Tryz.pinned (OpenSpec.ofChange alertEqualAreasSpec)

/-- ITS FALSE NEIGHBOUR: 'it returns false'. Refute it at one input. -/
def alertEqualAreasWrong : ChangeSpec := { name := "alertEqualAreas", fn := fun _ => fun
  | [d1, d2] => { results := [.lit (.bool false)], args := [d1, d2] }
  | _ => none }
def AlertEqualAreasWrongFalsely : Prop := alertEqualAreasRow.holds Tryz.pinned (OpenSpec.ofChange alertEqualAreasWrong)

/-- 'cherenkovlaw07.AlertParts': WHATEVER THE INPUT: true; the input reads as it did. -/
def alertPartsSpec : ChangeSpec := { name := "alertParts", fn := fun _ => fun
  | [d1, d2, d3] => { results := [.lit (.bool true)], args := [d1, d2, d3] }
  | _ => none }
def alertPartsRow : OpenClaim := { program := "ytenkgipcblfocaagreat", sum := "062fc1f676511d842b69cc078f869cf45ebf47b28b70e5ecc343132320c92b57", func := "cherenkov/cherenkovlaw07.AlertParts", spec := "alertParts", unfollowed := true, recurses := true, apart := false }
def AlertPartsSaid : Prop := alertPartsRow.holds Tryz.pinned (OpenSpec.ofChange alertPartsSpec)

/-- ITS FALSE NEIGHBOUR: 'it returns false'. Refute it at one input. -/
def alertPartsWrong : ChangeSpec := { name := "alertParts", fn := fun _ => fun
  | [d1, d2, d3] => { results := [.lit (.bool false)], args := [d1, d2, d3] }
  | _ => none }
def AlertPartsWrongFalsely : Prop := alertPartsRow.holds Tryz.pinned (OpenSpec.ofChange alertPartsWrong)

/- THE SECOND FORM. 'bulk': how many values and letters a reading holds, each counted each time it is reached (what is shared counts as often as it is met; a slice's spare places count too). A statement '..UptoSaid' is the law's where the arguments, and the package variables that the reading takes, are together of bulk at most 1048576: NARROWER than '..Said'. Prove '..Said' where nothing that the law and all that it calls make is longer than what came in: it says more and counts as full. Else prove '..UptoSaid'. A law counts once. -/
mutual
def uptoBulk {H : Type} : DataW H → Nat
  | .lit (.string bytes) => bytes.length + 1
  | .lit _ => 1
  | .nil => 1
  | .ptr d => uptoBulk d + 1
  | .slice elems spare => uptoBulkAll elems + uptoBulkAll spare + 1
  | .agg parts => uptoBulkAll parts + 1
  | .iface _ d => uptoBulk d + 1
  | .map entries => uptoBulkEntries entries + 1
  | .held _ => 1
def uptoBulkAll {H : Type} : List (DataW H) → Nat
  | [] => 0
  | d :: r => uptoBulk d + uptoBulkAll r
def uptoBulkEntries {H : Type} : List (Lit × DataW H) → Nat
  | [] => 0
  | x :: r => uptoBulkEntry x + uptoBulkEntries r
def uptoBulkEntry {H : Type} : Lit × DataW H → Nat
  | (.string bytes, d) => bytes.length + uptoBulk d + 1
  | (_, d) => uptoBulk d + 1
 end
def uptoSmall : (H : Type) → List (DataW H) → Bool := fun _ ds => decide (uptoBulkAll ds ≤ 1048576)
def OpenSpec.upto (s : _root_.Go.ChangeSpec) : _root_.Go.OpenSpec := { _root_.Go.OpenSpec.ofChange s with cond := some uptoSmall }

/-- 'cherenkovlaw07.AlertTurned', WHERE WHAT IT READS IS OF BULK AT MOST 1048576: true; the input reads as it did. -/
def alertTurnedUptoRow : OpenClaim := { program := "ytenkgipcblfocaagreat", sum := "062fc1f676511d842b69cc078f869cf45ebf47b28b70e5ecc343132320c92b57", func := "cherenkov/cherenkovlaw07.AlertTurned", spec := "alertTurned", unfollowed := true, recurses := true, apart := false, narrowed := true }
def AlertTurnedUptoSaid : Prop := alertTurnedUptoRow.holds Tryz.pinned (OpenSpec.upto alertTurnedSpec)

/-- 'cherenkovlaw07.AlertKnown', WHERE WHAT IT READS IS OF BULK AT MOST 1048576: true; the input reads as it did. -/
def alertKnownUptoRow : OpenClaim := { program := "ytenkgipcblfocaagreat", sum := "062fc1f676511d842b69cc078f869cf45ebf47b28b70e5ecc343132320c92b57", func := "cherenkov/cherenkovlaw07.AlertKnown", spec := "alertKnown", unfollowed := true, recurses := true, apart := false, narrowed := true }
def AlertKnownUptoSaid : Prop := alertKnownUptoRow.holds Tryz.pinned (OpenSpec.upto alertKnownSpec)

/-- 'cherenkovlaw07.AlertActs', WHERE WHAT IT READS IS OF BULK AT MOST 1048576: true; the input reads as it did. -/
def alertActsUptoRow : OpenClaim := { program := "ytenkgipcblfocaagreat", sum := "062fc1f676511d842b69cc078f869cf45ebf47b28b70e5ecc343132320c92b57", func := "cherenkov/cherenkovlaw07.AlertActs", spec := "alertActs", unfollowed := true, recurses := true, apart := false, narrowed := true }
def AlertActsUptoSaid : Prop := alertActsUptoRow.holds Tryz.pinned (OpenSpec.upto alertActsSpec)

/-- 'cherenkovlaw07.AlertRegions', WHERE WHAT IT READS IS OF BULK AT MOST 1048576: true; the input reads as it did. -/
def alertRegionsUptoRow : OpenClaim := { program := "ytenkgipcblfocaagreat", sum := "062fc1f676511d842b69cc078f869cf45ebf47b28b70e5ecc343132320c92b57", func := "cherenkov/cherenkovlaw07.AlertRegions", spec := "alertRegions", unfollowed := true, recurses := true, apart := false, narrowed := true }
def AlertRegionsUptoSaid : Prop := alertRegionsUptoRow.holds Tryz.pinned (OpenSpec.upto alertRegionsSpec)

/-- 'cherenkovlaw07.AlertSmallest', WHERE WHAT IT READS IS OF BULK AT MOST 1048576: true; the input reads as it did. -/
def alertSmallestUptoRow : OpenClaim := { program := "ytenkgipcblfocaagreat", sum := "062fc1f676511d842b69cc078f869cf45ebf47b28b70e5ecc343132320c92b57", func := "cherenkov/cherenkovlaw07.AlertSmallest", spec := "alertSmallest", unfollowed := true, recurses := true, apart := false, narrowed := true }
def AlertSmallestUptoSaid : Prop := alertSmallestUptoRow.holds Tryz.pinned (OpenSpec.upto alertSmallestSpec)

/-- 'cherenkovlaw07.AlertAllWhoHad', WHERE WHAT IT READS IS OF BULK AT MOST 1048576: true; the input reads as it did. -/
def alertAllWhoHadUptoRow : OpenClaim := { program := "ytenkgipcblfocaagreat", sum := "062fc1f676511d842b69cc078f869cf45ebf47b28b70e5ecc343132320c92b57", func := "cherenkov/cherenkovlaw07.AlertAllWhoHad", spec := "alertAllWhoHad", unfollowed := true, recurses := true, apart := false, narrowed := true }
def AlertAllWhoHadUptoSaid : Prop := alertAllWhoHadUptoRow.holds Tryz.pinned (OpenSpec.upto alertAllWhoHadSpec)

/-- 'cherenkovlaw07.AlertMessages', WHERE WHAT IT READS IS OF BULK AT MOST 1048576: true; the input reads as it did. -/
def alertMessagesUptoRow : OpenClaim := { program := "ytenkgipcblfocaagreat", sum := "062fc1f676511d842b69cc078f869cf45ebf47b28b70e5ecc343132320c92b57", func := "cherenkov/cherenkovlaw07.AlertMessages", spec := "alertMessages", unfollowed := true, recurses := true, apart := false, narrowed := true }
def AlertMessagesUptoSaid : Prop := alertMessagesUptoRow.holds Tryz.pinned (OpenSpec.upto alertMessagesSpec)

/-- 'cherenkovlaw07.AlertOnTime', WHERE WHAT IT READS IS OF BULK AT MOST 1048576: true; the input reads as it did. -/
def alertOnTimeUptoRow : OpenClaim := { program := "ytenkgipcblfocaagreat", sum := "062fc1f676511d842b69cc078f869cf45ebf47b28b70e5ecc343132320c92b57", func := "cherenkov/cherenkovlaw07.AlertOnTime", spec := "alertOnTime", unfollowed := true, recurses := true, apart := false, narrowed := true }
def AlertOnTimeUptoSaid : Prop := alertOnTimeUptoRow.holds Tryz.pinned (OpenSpec.upto alertOnTimeSpec)

/-- 'cherenkovlaw07.AlertCoinciding', WHERE WHAT IT READS IS OF BULK AT MOST 1048576: true; the input reads as it did. -/
def alertCoincidingUptoRow : OpenClaim := { program := "ytenkgipcblfocaagreat", sum := "062fc1f676511d842b69cc078f869cf45ebf47b28b70e5ecc343132320c92b57", func := "cherenkov/cherenkovlaw07.AlertCoinciding", spec := "alertCoinciding", unfollowed := true, recurses := true, apart := false, narrowed := true }
def AlertCoincidingUptoSaid : Prop := alertCoincidingUptoRow.holds Tryz.pinned (OpenSpec.upto alertCoincidingSpec)

/-- 'cherenkovlaw07.AlertCells', WHERE WHAT IT READS IS OF BULK AT MOST 1048576: true; the input reads as it did. -/
def alertCellsUptoRow : OpenClaim := { program := "ytenkgipcblfocaagreat", sum := "062fc1f676511d842b69cc078f869cf45ebf47b28b70e5ecc343132320c92b57", func := "cherenkov/cherenkovlaw07.AlertCells", spec := "alertCells", unfollowed := true, recurses := true, apart := false, narrowed := true }
def AlertCellsUptoSaid : Prop := alertCellsUptoRow.holds Tryz.pinned (OpenSpec.upto alertCellsSpec)

/-- 'cherenkovlaw07.AlertEqualAreas', WHERE WHAT IT READS IS OF BULK AT MOST 1048576: true; the input reads as it did. -/
def alertEqualAreasUptoRow : OpenClaim := { program := "ytenkgipcblfocaagreat", sum := "062fc1f676511d842b69cc078f869cf45ebf47b28b70e5ecc343132320c92b57", func := "cherenkov/cherenkovlaw07.AlertEqualAreas", spec := "alertEqualAreas", unfollowed := true, recurses := true, apart := false, narrowed := true }
def AlertEqualAreasUptoSaid : Prop := alertEqualAreasUptoRow.holds Tryz.pinned (OpenSpec.upto alertEqualAreasSpec)

/-- 'cherenkovlaw07.AlertParts', WHERE WHAT IT READS IS OF BULK AT MOST 1048576: true; the input reads as it did. -/
def alertPartsUptoRow : OpenClaim := { program := "ytenkgipcblfocaagreat", sum := "062fc1f676511d842b69cc078f869cf45ebf47b28b70e5ecc343132320c92b57", func := "cherenkov/cherenkovlaw07.AlertParts", spec := "alertParts", unfollowed := true, recurses := true, apart := false, narrowed := true }
def AlertPartsUptoSaid : Prop := alertPartsUptoRow.holds Tryz.pinned (OpenSpec.upto alertPartsSpec)

end Rows
end Go.Proofs.YtenkgipcblfocaaGreat
