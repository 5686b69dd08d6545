/- Laws on which the proofs of this seat stand. No condition. -/
import Derived.Test.YtbkdjlahhcofmaaGreatDoorRows
import Derived.Test.YtbkdjlahhcofmaaGreatDoorTie
import Derived.ProofKit
import Derived.Stop.Joined
import Derived.SevenTiedAt
namespace Go.Proofs.YtbkdjlahhcofmaaGreatDoor.triggerStrings
open Go Go.ChangeShapes Go.WideShapes Go.ChangeAt Go.RowKit
set_option maxHeartbeats 12800000 in
theorem wfb : Rows.triggerStringsRow.wfByText (OpenSpec.ofChange Rows.triggerStringsSpec) = true := by kernel_rfl
end Go.Proofs.YtbkdjlahhcofmaaGreatDoor.triggerStrings
