/- Laws on which the proofs of this seat stand. No condition. -/
import Derived.Test.YtbkdjlahhcofmaaGreatDoorRows
import Derived.Test.YtbkdjlahhcofmaaGreatDoorTie
import Derived.ProofKit
import Derived.Stop.Joined
import Derived.SevenTiedAt
namespace Go.Proofs.YtbkdjlahhcofmaaGreatDoor.topTriggerWhole
open Go Go.ChangeShapes Go.WideShapes Go.ChangeAt Go.RowKit
theorem looksT : true = Tryz.pinned.checked.prog.looks [] := by kernel_rfl
theorem goesF : false = Rows.topTriggerWholeRow.goesBy Tryz.pinned.checked.prog := by kernel_rfl
theorem mainT : Tryz.pinned.checked.prog.mainIs = some (true, "9fdafd392fc4baf11d1d0a86c4b3daf8f8217a59c4600aeca29490a9de12145c".toList) := by kernel_rfl
end Go.Proofs.YtbkdjlahhcofmaaGreatDoor.topTriggerWhole
