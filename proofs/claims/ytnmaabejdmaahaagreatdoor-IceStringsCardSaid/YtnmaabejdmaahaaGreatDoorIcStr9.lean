/- Laws on which the proofs of this seat stand. No condition. -/
import Derived.Test.YtnmaabejdmaahaaGreatDoorRows
import Derived.Test.YtnmaabejdmaahaaGreatDoorTie
import Derived.ProofKit
import Derived.Stop.Joined
import Derived.SevenTiedAt
namespace Go.Proofs.YtnmaabejdmaahaaGreatDoor.iceStrings
open Go Go.ChangeShapes Go.WideShapes Go.ChangeAt Go.RowKit
theorem looksT : true = Tryz.pinned.checked.prog.looks [] := by kernel_rfl
theorem goesF : false = Rows.iceStringsRow.goesBy Tryz.pinned.checked.prog := by kernel_rfl
theorem mainT : Tryz.pinned.checked.prog.mainIs = some (true, "781787c6fb4694554b0edfb58abee9572b332e0763ba634bdb92583c9e903b31".toList) := by kernel_rfl
end Go.Proofs.YtnmaabejdmaahaaGreatDoor.iceStrings
