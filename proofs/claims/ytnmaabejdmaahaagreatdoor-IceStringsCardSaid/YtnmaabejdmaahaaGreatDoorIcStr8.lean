/- Laws on which the proofs of this seat stand. No condition. -/
import Derived.Test.YtnmaabejdmaahaaGreatDoorRows
import Derived.Test.YtnmaabejdmaahaaGreatDoorTie
import Derived.ProofKit
import Derived.Stop.Joined
import Derived.SevenTiedAt
namespace Go.Proofs.YtnmaabejdmaahaaGreatDoor.iceStrings
open Go Go.ChangeShapes Go.WideShapes Go.ChangeAt Go.RowKit
set_option maxHeartbeats 12800000 in
theorem wfb : Rows.iceStringsRow.wfByText (OpenSpec.ofChange Rows.iceStringsSpec) = true := by kernel_rfl
end Go.Proofs.YtnmaabejdmaahaaGreatDoor.iceStrings
