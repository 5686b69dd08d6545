/- Laws on which the proofs of this seat stand. No condition. -/
import Derived.Test.YtbkdjlahhcofmaaGreatDoorRows
import Derived.Test.YtbkdjlahhcofmaaGreatDoorTie
import Derived.ProofKit
import Derived.Stop.Joined
import Derived.SevenTiedAt
namespace Go.Proofs.YtbkdjlahhcofmaaGreatDoor.topTriggerWhole
open Go Go.ChangeShapes Go.WideShapes Go.ChangeAt Go.RowKit
set_option maxHeartbeats 12800000 in
theorem wfb : Rows.topTriggerWholeRow.wfByText (OpenSpec.ofChange Rows.topTriggerWholeSpec) = true := by kernel_rfl
end Go.Proofs.YtbkdjlahhcofmaaGreatDoor.topTriggerWhole
