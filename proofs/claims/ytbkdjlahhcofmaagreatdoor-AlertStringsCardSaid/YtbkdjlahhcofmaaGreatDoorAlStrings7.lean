/- Laws on which the proofs of this seat stand. No condition. -/
import Derived.Test.YtbkdjlahhcofmaaGreatDoorAlStrings6
import Derived.Test.YtbkdjlahhcofmaaGreatDoorRows
import Derived.Test.YtbkdjlahhcofmaaGreatDoorTie
import Derived.ProofKit
import Derived.Stop.Joined
import Derived.SevenTiedAt
namespace Go.Proofs.YtbkdjlahhcofmaaGreatDoor.alertStrings
open Go Go.ChangeShapes Go.WideShapes Go.ChangeAt Go.RowKit
set_option maxRecDepth 100000 in
set_option maxHeartbeats 12800000 in
theorem closed : joinedFacts Tryz.pinned.checked.prog 9 Tryz.f9 Rows.alertStringsSpec Rows.alertStringsRow = true := by
  unfold joinedFacts
  repeat' (with_reducible refine (Bool.and_eq_true _ _).mpr ⟨?_, ?_⟩)
  · as_aux_lemma => kernel_rfl
  · as_aux_lemma => kernel_rfl
  · as_aux_lemma => kernel_rfl
  · as_aux_lemma => kernel_rfl
  · as_aux_lemma => kernel_rfl
  · as_aux_lemma => kernel_rfl
  · as_aux_lemma => kernel_rfl
  · as_aux_lemma => kernel_rfl
  · as_aux_lemma => kernel_rfl
  · as_aux_lemma => kernel_rfl
  · as_aux_lemma => kernel_rfl
  · as_aux_lemma => kernel_rfl
  · as_aux_lemma => kernel_rfl
  · as_aux_lemma => kernel_rfl
  · as_aux_lemma => kernel_rfl
  · as_aux_lemma => kernel_rfl
  · as_aux_lemma => kernel_rfl
  · as_aux_lemma => kernel_rfl
  · as_aux_lemma => kernel_rfl
  · as_aux_lemma => kernel_rfl
  · as_aux_lemma => kernel_rfl
  · as_aux_lemma => kernel_rfl
  · as_aux_lemma => kernel_rfl
  · as_aux_lemma => kernel_rfl
  · as_aux_lemma => kernel_rfl
  · as_aux_lemma => kernel_rfl
  · as_aux_lemma => kernel_rfl
  · as_aux_lemma => kernel_rfl
  · as_aux_lemma => kernel_rfl
  · as_aux_lemma => kernel_rfl
  · as_aux_lemma => kernel_rfl
  · as_aux_lemma => kernel_rfl
set_option maxHeartbeats 12800000 in
theorem wfb : Rows.alertStringsRow.wfByText (OpenSpec.ofChange Rows.alertStringsSpec) = true := by kernel_rfl
theorem looksT : true = Tryz.pinned.checked.prog.looks [] := by kernel_rfl
theorem goesF : false = Rows.alertStringsRow.goesBy Tryz.pinned.checked.prog := by kernel_rfl
theorem mainT : Tryz.pinned.checked.prog.mainIs = some (true, "9fdafd392fc4baf11d1d0a86c4b3daf8f8217a59c4600aeca29490a9de12145c".toList) := by kernel_rfl
end Go.Proofs.YtbkdjlahhcofmaaGreatDoor.alertStrings
