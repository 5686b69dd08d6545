/- Laws on which the proofs of this seat stand. No condition. -/
import Derived.Test.YtnmaabejdmaahaaGreatDoorRows
import Derived.Test.YtnmaabejdmaahaaGreatDoorTie
import Derived.ProofKit
import Derived.Stop.Joined
import Derived.SevenTiedAt
namespace Go.Proofs.YtnmaabejdmaahaaGreatDoor.iceStrings
open Go Go.ChangeShapes Go.WideShapes Go.ChangeAt Go.RowKit
set_option maxRecDepth 100000 in
set_option maxHeartbeats 12800000 in
theorem closed : joinedFacts Tryz.pinned.checked.prog 4 Tryz.f4 Rows.iceStringsSpec Rows.iceStringsRow = true := by
  unfold joinedFacts
  repeat' (with_reducible refine (Bool.and_eq_true _ _).mpr ⟨?_, ?_⟩)
  · as_aux_lemma => kernel_rfl
  · as_aux_lemma => kernel_rfl
  · as_aux_lemma => kernel_rfl
  · as_aux_lemma => kernel_rfl
  · as_aux_lemma => kernel_rfl
  · as_aux_lemma => kernel_rfl
  · as_aux_lemma => kernel_rfl
  · as_aux_lemma => kernel_rfl
  · as_aux_lemma => kernel_rfl
  · as_aux_lemma => kernel_rfl
  · as_aux_lemma => kernel_rfl
  · as_aux_lemma => kernel_rfl
  · as_aux_lemma => kernel_rfl
  · as_aux_lemma => kernel_rfl
  · as_aux_lemma => kernel_rfl
  · as_aux_lemma => kernel_rfl
  · as_aux_lemma => kernel_rfl
  · as_aux_lemma => kernel_rfl
  · as_aux_lemma => kernel_rfl
  · as_aux_lemma => kernel_rfl
  · as_aux_lemma => kernel_rfl
  · as_aux_lemma => kernel_rfl
  · as_aux_lemma => kernel_rfl
  · as_aux_lemma => kernel_rfl
  · as_aux_lemma => kernel_rfl
  · as_aux_lemma => kernel_rfl
  · as_aux_lemma => kernel_rfl
  · as_aux_lemma => kernel_rfl
  · as_aux_lemma => kernel_rfl
  · as_aux_lemma => kernel_rfl
  · as_aux_lemma => kernel_rfl
  · as_aux_lemma => kernel_rfl
end Go.Proofs.YtnmaabejdmaahaaGreatDoor.iceStrings
