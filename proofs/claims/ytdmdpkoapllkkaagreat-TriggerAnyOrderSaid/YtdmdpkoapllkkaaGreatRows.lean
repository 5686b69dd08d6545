/-
  No cell of these rows narrows 'for every input' (looked for: loops, veiled, ifaces, maps, wideKeys, modest, calm, conditions, laid).
  DERIVED. THE GIVEN ROWS OF THIS SEAT. 7 by the template 'for every input the law returns true; each argument reads behind the call as it read before'; 0 by the template 'total and deterministic' (their statements: YtdmdpkoapllkkaaGreatTotals.lean).
  GIVEN WITH THE SEED: the statements are not yours to turn. If you find one false, say at which input.
  Laid BY PROGRAM, IN A SANDBOX (cutbox-rows.mjs): the forced cells as the released guide's own fill.sh prints them over the translation 8c4bbc39b74a3c3f… (all of the seat's roots in one cut). By AI agents, Wed Nov 11 2026. No macro, syntax, notation, axiom, sorry.
-/
import Derived.Test.YtdmdpkoapllkkaaGreatChecked
import GoSem.Claim
import GoSem.ClaimJoined
import GoSem.ClaimMapViews
import Derived.JoinedTies
import Derived.KernelRfl
namespace Go.Proofs.YtdmdpkoapllkkaaGreat
/- THE CELL 'sum', in the pinned program and in every row, IS THE sha256 OF THE DUMP (.gsa) THAT YtdmdpkoapllkkaaGreatProg.lean LOADS. Nothing in Lean hashes anything: it is a label: what it is worth is what the hold of that sum in a sandbox is worth. -/
noncomputable def Tryz.pinned : Pinned := { name := "ytdmdpkoapllkkaagreat", sum := "8c4bbc39b74a3c3f4b2a27a44cb98879d24c2c13dd6ff763820955c861564418", checked := Tryz.checked }
namespace Rows
def none {H : Type} : Left H := { results := [], args := [] }

/-- 'cherenkovlaw04.TriggerLess': WHATEVER THE INPUT: true; the input reads as it did. -/
def triggerLessSpec : ChangeSpec := { name := "triggerLess", fn := fun _ => fun
  | [d1, d2, d3] => { results := [.lit (.bool true)], args := [d1, d2, d3] }
  | _ => none }
def triggerLessRow : OpenClaim := { program := "ytdmdpkoapllkkaagreat", sum := "8c4bbc39b74a3c3f4b2a27a44cb98879d24c2c13dd6ff763820955c861564418", func := "cherenkov/cherenkovlaw04.TriggerLess", spec := "triggerLess", unfollowed := true, recurses := true, plainKeys := false, apart := false }
def TriggerLessSaid : Prop := triggerLessRow.holds Tryz.pinned (OpenSpec.ofChange triggerLessSpec)

/-- ITS FALSE NEIGHBOUR: 'it returns false'. Refute it at one input. -/
def triggerLessWrong : ChangeSpec := { name := "triggerLess", fn := fun _ => fun
  | [d1, d2, d3] => { results := [.lit (.bool false)], args := [d1, d2, d3] }
  | _ => none }
def TriggerLessWrongFalsely : Prop := triggerLessRow.holds Tryz.pinned (OpenSpec.ofChange triggerLessWrong)

/-- 'cherenkovlaw04.TriggerSilent': WHATEVER THE INPUT: true; the input reads as it did. -/
def triggerSilentSpec : ChangeSpec := { name := "triggerSilent", fn := fun _ => fun
  | [d1, d2, d3] => { results := [.lit (.bool true)], args := [d1, d2, d3] }
  | _ => none }
def triggerSilentRow : OpenClaim := { program := "ytdmdpkoapllkkaagreat", sum := "8c4bbc39b74a3c3f4b2a27a44cb98879d24c2c13dd6ff763820955c861564418", func := "cherenkov/cherenkovlaw04.TriggerSilent", spec := "triggerSilent", unfollowed := true, recurses := true, plainKeys := false, apart := false }
def TriggerSilentSaid : Prop := triggerSilentRow.holds Tryz.pinned (OpenSpec.ofChange triggerSilentSpec)

/-- ITS FALSE NEIGHBOUR: 'it returns false'. Refute it at one input. -/
def triggerSilentWrong : ChangeSpec := { name := "triggerSilent", fn := fun _ => fun
  | [d1, d2, d3] => { results := [.lit (.bool false)], args := [d1, d2, d3] }
  | _ => none }
def TriggerSilentWrongFalsely : Prop := triggerSilentRow.holds Tryz.pinned (OpenSpec.ofChange triggerSilentWrong)

/-- 'cherenkovlaw04.TriggerClaims': WHATEVER THE INPUT: true; the input reads as it did. -/
def triggerClaimsSpec : ChangeSpec := { name := "triggerClaims", fn := fun _ => fun
  | [d1, d2, d3] => { results := [.lit (.bool true)], args := [d1, d2, d3] }
  | _ => none }
def triggerClaimsRow : OpenClaim := { program := "ytdmdpkoapllkkaagreat", sum := "8c4bbc39b74a3c3f4b2a27a44cb98879d24c2c13dd6ff763820955c861564418", func := "cherenkov/cherenkovlaw04.TriggerClaims", spec := "triggerClaims", unfollowed := true, recurses := true, plainKeys := false, apart := false }
def TriggerClaimsSaid : Prop := triggerClaimsRow.holds Tryz.pinned (OpenSpec.ofChange triggerClaimsSpec)

/-- ITS FALSE NEIGHBOUR: 'it returns false'. Refute it at one input. -/
def triggerClaimsWrong : ChangeSpec := { name := "triggerClaims", fn := fun _ => fun
  | [d1, d2, d3] => { results := [.lit (.bool false)], args := [d1, d2, d3] }
  | _ => none }
def TriggerClaimsWrongFalsely : Prop := triggerClaimsRow.holds Tryz.pinned (OpenSpec.ofChange triggerClaimsWrong)

/-- 'cherenkovlaw04.TriggerSilenced': WHATEVER THE INPUT: true; the input reads as it did. -/
def triggerSilencedSpec : ChangeSpec := { name := "triggerSilenced", fn := fun _ => fun
  | [d1, d2, d3] => { results := [.lit (.bool true)], args := [d1, d2, d3] }
  | _ => none }
def triggerSilencedRow : OpenClaim := { program := "ytdmdpkoapllkkaagreat", sum := "8c4bbc39b74a3c3f4b2a27a44cb98879d24c2c13dd6ff763820955c861564418", func := "cherenkov/cherenkovlaw04.TriggerSilenced", spec := "triggerSilenced", unfollowed := true, recurses := true, plainKeys := false, apart := false }
def TriggerSilencedSaid : Prop := triggerSilencedRow.holds Tryz.pinned (OpenSpec.ofChange triggerSilencedSpec)

/-- ITS FALSE NEIGHBOUR: 'it returns false'. Refute it at one input. -/
def triggerSilencedWrong : ChangeSpec := { name := "triggerSilenced", fn := fun _ => fun
  | [d1, d2, d3] => { results := [.lit (.bool false)], args := [d1, d2, d3] }
  | _ => none }
def TriggerSilencedWrongFalsely : Prop := triggerSilencedRow.holds Tryz.pinned (OpenSpec.ofChange triggerSilencedWrong)

/-- 'cherenkovlaw04.TriggerStreams': WHATEVER THE INPUT: true; the input reads as it did. -/
def triggerStreamsSpec : ChangeSpec := { name := "triggerStreams", fn := fun _ => fun
  | [d1, d2, d3] => { results := [.lit (.bool true)], args := [d1, d2, d3] }
  | _ => none }
def triggerStreamsRow : OpenClaim := { program := "ytdmdpkoapllkkaagreat", sum := "8c4bbc39b74a3c3f4b2a27a44cb98879d24c2c13dd6ff763820955c861564418", func := "cherenkov/cherenkovlaw04.TriggerStreams", spec := "triggerStreams", unfollowed := true, recurses := true, plainKeys := false, apart := false }
def TriggerStreamsSaid : Prop := triggerStreamsRow.holds Tryz.pinned (OpenSpec.ofChange triggerStreamsSpec)

/-- ITS FALSE NEIGHBOUR: 'it returns false'. Refute it at one input. -/
def triggerStreamsWrong : ChangeSpec := { name := "triggerStreams", fn := fun _ => fun
  | [d1, d2, d3] => { results := [.lit (.bool false)], args := [d1, d2, d3] }
  | _ => none }
def TriggerStreamsWrongFalsely : Prop := triggerStreamsRow.holds Tryz.pinned (OpenSpec.ofChange triggerStreamsWrong)

/-- 'cherenkovlaw04.TriggerAnyOrder': WHATEVER THE INPUT: true; the input reads as it did. -/
def triggerAnyOrderSpec : ChangeSpec := { name := "triggerAnyOrder", fn := fun _ => fun
  | [d1, d2, d3] => { results := [.lit (.bool true)], args := [d1, d2, d3] }
  | _ => none }
def triggerAnyOrderRow : OpenClaim := { program := "ytdmdpkoapllkkaagreat", sum := "8c4bbc39b74a3c3f4b2a27a44cb98879d24c2c13dd6ff763820955c861564418", func := "cherenkov/cherenkovlaw04.TriggerAnyOrder", spec := "triggerAnyOrder", unfollowed := true, recurses := true, plainKeys := false, apart := false }
def TriggerAnyOrderSaid : Prop := triggerAnyOrderRow.holds Tryz.pinned (OpenSpec.ofChange triggerAnyOrderSpec)

/-- ITS FALSE NEIGHBOUR: 'it returns false'. Refute it at one input. -/
def triggerAnyOrderWrong : ChangeSpec := { name := "triggerAnyOrder", fn := fun _ => fun
  | [d1, d2, d3] => { results := [.lit (.bool false)], args := [d1, d2, d3] }
  | _ => none }
def TriggerAnyOrderWrongFalsely : Prop := triggerAnyOrderRow.holds Tryz.pinned (OpenSpec.ofChange triggerAnyOrderWrong)

/-- 'cherenkovlaw04.TriggerSettled': WHATEVER THE INPUT: true; the input reads as it did. -/
def triggerSettledSpec : ChangeSpec := { name := "triggerSettled", fn := fun _ => fun
  | [d1, d2, d3] => { results := [.lit (.bool true)], args := [d1, d2, d3] }
  | _ => none }
def triggerSettledRow : OpenClaim := { program := "ytdmdpkoapllkkaagreat", sum := "8c4bbc39b74a3c3f4b2a27a44cb98879d24c2c13dd6ff763820955c861564418", func := "cherenkov/cherenkovlaw04.TriggerSettled", spec := "triggerSettled", unfollowed := true, recurses := true, plainKeys := false, apart := false }
def TriggerSettledSaid : Prop := triggerSettledRow.holds Tryz.pinned (OpenSpec.ofChange triggerSettledSpec)

/-- ITS FALSE NEIGHBOUR: 'it returns false'. Refute it at one input. -/
def triggerSettledWrong : ChangeSpec := { name := "triggerSettled", fn := fun _ => fun
  | [d1, d2, d3] => { results := [.lit (.bool false)], args := [d1, d2, d3] }
  | _ => none }
def TriggerSettledWrongFalsely : Prop := triggerSettledRow.holds Tryz.pinned (OpenSpec.ofChange triggerSettledWrong)

/- THE SECOND FORM. 'bulk': how many values and letters a reading holds, each counted each time it is reached (what is shared counts as often as it is met; a slice's spare places count too). A statement '..UptoSaid' is the law's where the arguments, and the package variables that the reading takes, are together of bulk at most 1048576: NARROWER than '..Said'. Prove '..Said' where nothing that the law and all that it calls make is longer than what came in: it says more and counts as full. Else prove '..UptoSaid'. A law counts once. -/
mutual
def uptoBulk {H : Type} : DataW H → Nat
  | .lit (.string bytes) => bytes.length + 1
  | .lit _ => 1
  | .nil => 1
  | .ptr d => uptoBulk d + 1
  | .slice elems spare => uptoBulkAll elems + uptoBulkAll spare + 1
  | .agg parts => uptoBulkAll parts + 1
  | .iface _ d => uptoBulk d + 1
  | .map entries => uptoBulkEntries entries + 1
  | .held _ => 1
def uptoBulkAll {H : Type} : List (DataW H) → Nat
  | [] => 0
  | d :: r => uptoBulk d + uptoBulkAll r
def uptoBulkEntries {H : Type} : List (Lit × DataW H) → Nat
  | [] => 0
  | x :: r => uptoBulkEntry x + uptoBulkEntries r
def uptoBulkEntry {H : Type} : Lit × DataW H → Nat
  | (.string bytes, d) => bytes.length + uptoBulk d + 1
  | (_, d) => uptoBulk d + 1
 end
def uptoSmall : (H : Type) → List (DataW H) → Bool := fun _ ds => decide (uptoBulkAll ds ≤ 1048576)
def OpenSpec.upto (s : _root_.Go.ChangeSpec) : _root_.Go.OpenSpec := { _root_.Go.OpenSpec.ofChange s with cond := some uptoSmall }

/-- 'cherenkovlaw04.TriggerLess', WHERE WHAT IT READS IS OF BULK AT MOST 1048576: true; the input reads as it did. -/
def triggerLessUptoRow : OpenClaim := { program := "ytdmdpkoapllkkaagreat", sum := "8c4bbc39b74a3c3f4b2a27a44cb98879d24c2c13dd6ff763820955c861564418", func := "cherenkov/cherenkovlaw04.TriggerLess", spec := "triggerLess", unfollowed := true, recurses := true, plainKeys := false, apart := false, narrowed := true }
def TriggerLessUptoSaid : Prop := triggerLessUptoRow.holds Tryz.pinned (OpenSpec.upto triggerLessSpec)

/-- 'cherenkovlaw04.TriggerSilent', WHERE WHAT IT READS IS OF BULK AT MOST 1048576: true; the input reads as it did. -/
def triggerSilentUptoRow : OpenClaim := { program := "ytdmdpkoapllkkaagreat", sum := "8c4bbc39b74a3c3f4b2a27a44cb98879d24c2c13dd6ff763820955c861564418", func := "cherenkov/cherenkovlaw04.TriggerSilent", spec := "triggerSilent", unfollowed := true, recurses := true, plainKeys := false, apart := false, narrowed := true }
def TriggerSilentUptoSaid : Prop := triggerSilentUptoRow.holds Tryz.pinned (OpenSpec.upto triggerSilentSpec)

/-- 'cherenkovlaw04.TriggerClaims', WHERE WHAT IT READS IS OF BULK AT MOST 1048576: true; the input reads as it did. -/
def triggerClaimsUptoRow : OpenClaim := { program := "ytdmdpkoapllkkaagreat", sum := "8c4bbc39b74a3c3f4b2a27a44cb98879d24c2c13dd6ff763820955c861564418", func := "cherenkov/cherenkovlaw04.TriggerClaims", spec := "triggerClaims", unfollowed := true, recurses := true, plainKeys := false, apart := false, narrowed := true }
def TriggerClaimsUptoSaid : Prop := triggerClaimsUptoRow.holds Tryz.pinned (OpenSpec.upto triggerClaimsSpec)

/-- 'cherenkovlaw04.TriggerSilenced', WHERE WHAT IT READS IS OF BULK AT MOST 1048576: true; the input reads as it did. -/
def triggerSilencedUptoRow : OpenClaim := { program := "ytdmdpkoapllkkaagreat", sum := "8c4bbc39b74a3c3f4b2a27a44cb98879d24c2c13dd6ff763820955c861564418", func := "cherenkov/cherenkovlaw04.TriggerSilenced", spec := "triggerSilenced", unfollowed := true, recurses := true, plainKeys := false, apart := false, narrowed := true }
def TriggerSilencedUptoSaid : Prop := triggerSilencedUptoRow.holds Tryz.pinned (OpenSpec.upto triggerSilencedSpec)

/-- 'cherenkovlaw04.TriggerStreams', WHERE WHAT IT READS IS OF BULK AT MOST 1048576: true; the input reads as it did. -/
def triggerStreamsUptoRow : OpenClaim := { program := "ytdmdpkoapllkkaagreat", sum := "8c4bbc39b74a3c3f4b2a27a44cb98879d24c2c13dd6ff763820955c861564418", func := "cherenkov/cherenkovlaw04.TriggerStreams", spec := "triggerStreams", unfollowed := true, recurses := true, plainKeys := false, apart := false, narrowed := true }
def TriggerStreamsUptoSaid : Prop := triggerStreamsUptoRow.holds Tryz.pinned (OpenSpec.upto triggerStreamsSpec)

/-- 'cherenkovlaw04.TriggerAnyOrder', WHERE WHAT IT READS IS OF BULK AT MOST 1048576: true; the input reads as it did. -/
def triggerAnyOrderUptoRow : OpenClaim := { program := "ytdmdpkoapllkkaagreat", sum := "8c4bbc39b74a3c3f4b2a27a44cb98879d24c2c13dd6ff763820955c861564418", func := "cherenkov/cherenkovlaw04.TriggerAnyOrder", spec := "triggerAnyOrder", unfollowed := true, recurses := true, plainKeys := false, apart := false, narrowed := true }
def TriggerAnyOrderUptoSaid : Prop := triggerAnyOrderUptoRow.holds Tryz.pinned (OpenSpec.upto triggerAnyOrderSpec)

/-- 'cherenkovlaw04.TriggerSettled', WHERE WHAT IT READS IS OF BULK AT MOST 1048576: true; the input reads as it did. -/
def triggerSettledUptoRow : OpenClaim := { program := "ytdmdpkoapllkkaagreat", sum := "8c4bbc39b74a3c3f4b2a27a44cb98879d24c2c13dd6ff763820955c861564418", func := "cherenkov/cherenkovlaw04.TriggerSettled", spec := "triggerSettled", unfollowed := true, recurses := true, plainKeys := false, apart := false, narrowed := true }
def TriggerSettledUptoSaid : Prop := triggerSettledUptoRow.holds Tryz.pinned (OpenSpec.upto triggerSettledSpec)

end Rows
end Go.Proofs.YtdmdpkoapllkkaaGreat
