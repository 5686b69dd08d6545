/-
  No cell of these rows narrows 'for every input' (looked for: loops, veiled, ifaces, maps, wideKeys, modest, calm, conditions, laid).
  DERIVED. THE GIVEN ROWS OF THIS SEAT. 5 by the template 'for every input the law returns true; each argument reads behind the call as it read before'; 0 by the template 'total and deterministic' (their statements: YtpobmfeklenpdaaGreatTotals.lean).
  GIVEN WITH THE SEED: the statements are not yours to turn. If you find one false, say at which input.
  Laid BY PROGRAM, IN A SANDBOX (cutbox-rows.mjs): the forced cells as the released guide's own fill.sh prints them over the translation af57d75ded430708… (all of the seat's roots in one cut). By AI agents, Wed Nov 11 2026. No macro, syntax, notation, axiom, sorry.
-/
import Derived.Test.YtpobmfeklenpdaaGreatChecked
import GoSem.Claim
import GoSem.ClaimJoined
import GoSem.ClaimMapViews
import Derived.JoinedTies
import Derived.KernelRfl
namespace Go.Proofs.YtpobmfeklenpdaaGreat
/- THE CELL 'sum', in the pinned program and in every row, IS THE sha256 OF THE DUMP (.gsa) THAT YtpobmfeklenpdaaGreatProg.lean LOADS. Nothing in Lean hashes anything: it is a label: what it is worth is what the hold of that sum in a sandbox is worth. -/
noncomputable def Tryz.pinned : Pinned := { name := "ytpobmfeklenpdaagreat", sum := "af57d75ded43070857ed3c8aab9b945265416a316bf55dff58b4be33b3df017e", checked := Tryz.checked }
namespace Rows
def none {H : Type} : Left H := { results := [], args := [] }

/-- 'cherenkovlaw04.TriggerFires': WHATEVER THE INPUT: true; the input reads as it did. -/
def triggerFiresSpec : ChangeSpec := { name := "triggerFires", fn := fun _ => fun
  | [d1, d2, d3] => { results := [.lit (.bool true)], args := [d1, d2, d3] }
  | _ => none }
def triggerFiresRow : OpenClaim := { program := "ytpobmfeklenpdaagreat", sum := "af57d75ded43070857ed3c8aab9b945265416a316bf55dff58b4be33b3df017e", func := "cherenkov/cherenkovlaw04.TriggerFires", spec := "triggerFires", unfollowed := true, recurses := true, plainKeys := false, apart := false }
def TriggerFiresSaid : Prop := triggerFiresRow.holds Tryz.pinned (OpenSpec.ofChange triggerFiresSpec)

/-- ITS FALSE NEIGHBOUR: 'it returns false'. Refute it at one input. -/
def triggerFiresWrong : ChangeSpec := { name := "triggerFires", fn := fun _ => fun
  | [d1, d2, d3] => { results := [.lit (.bool false)], args := [d1, d2, d3] }
  | _ => none }
def TriggerFiresWrongFalsely : Prop := triggerFiresRow.holds Tryz.pinned (OpenSpec.ofChange triggerFiresWrong)

/-- 'cherenkovlaw04.TriggerEvents': WHATEVER THE INPUT: true; the input reads as it did. -/
def triggerEventsSpec : ChangeSpec := { name := "triggerEvents", fn := fun _ => fun
  | [d1, d2, d3] => { results := [.lit (.bool true)], args := [d1, d2, d3] }
  | _ => none }
def triggerEventsRow : OpenClaim := { program := "ytpobmfeklenpdaagreat", sum := "af57d75ded43070857ed3c8aab9b945265416a316bf55dff58b4be33b3df017e", func := "cherenkov/cherenkovlaw04.TriggerEvents", spec := "triggerEvents", unfollowed := true, recurses := true, plainKeys := false, apart := false }
def TriggerEventsSaid : Prop := triggerEventsRow.holds Tryz.pinned (OpenSpec.ofChange triggerEventsSpec)

/-- ITS FALSE NEIGHBOUR: 'it returns false'. Refute it at one input. -/
def triggerEventsWrong : ChangeSpec := { name := "triggerEvents", fn := fun _ => fun
  | [d1, d2, d3] => { results := [.lit (.bool false)], args := [d1, d2, d3] }
  | _ => none }
def TriggerEventsWrongFalsely : Prop := triggerEventsRow.holds Tryz.pinned (OpenSpec.ofChange triggerEventsWrong)

/-- 'cherenkovlaw04.TriggerArrays': WHATEVER THE INPUT: true; the input reads as it did. -/
def triggerArraysSpec : ChangeSpec := { name := "triggerArrays", fn := fun _ => fun
  | [d1, d2, d3] => { results := [.lit (.bool true)], args := [d1, d2, d3] }
  | _ => none }
def triggerArraysRow : OpenClaim := { program := "ytpobmfeklenpdaagreat", sum := "af57d75ded43070857ed3c8aab9b945265416a316bf55dff58b4be33b3df017e", func := "cherenkov/cherenkovlaw04.TriggerArrays", spec := "triggerArrays", unfollowed := true, recurses := true, plainKeys := false, apart := false }
def TriggerArraysSaid : Prop := triggerArraysRow.holds Tryz.pinned (OpenSpec.ofChange triggerArraysSpec)

/-- ITS FALSE NEIGHBOUR: 'it returns false'. Refute it at one input. -/
def triggerArraysWrong : ChangeSpec := { name := "triggerArrays", fn := fun _ => fun
  | [d1, d2, d3] => { results := [.lit (.bool false)], args := [d1, d2, d3] }
  | _ => none }
def TriggerArraysWrongFalsely : Prop := triggerArraysRow.holds Tryz.pinned (OpenSpec.ofChange triggerArraysWrong)

/-- 'cherenkovlaw04.TriggerSilent': WHATEVER THE INPUT: true; the input reads as it did. -/
def triggerSilentSpec : ChangeSpec := { name := "triggerSilent", fn := fun _ => fun
  | [d1, d2, d3] => { results := [.lit (.bool true)], args := [d1, d2, d3] }
  | _ => none }
def triggerSilentRow : OpenClaim := { program := "ytpobmfeklenpdaagreat", sum := "af57d75ded43070857ed3c8aab9b945265416a316bf55dff58b4be33b3df017e", func := "cherenkov/cherenkovlaw04.TriggerSilent", spec := "triggerSilent", unfollowed := true, recurses := true, plainKeys := false, apart := false }
def TriggerSilentSaid : Prop := triggerSilentRow.holds Tryz.pinned (OpenSpec.ofChange triggerSilentSpec)

/-- ITS FALSE NEIGHBOUR: 'it returns false'. Refute it at one input. -/
def triggerSilentWrong : ChangeSpec := { name := "triggerSilent", fn := fun _ => fun
  | [d1, d2, d3] => { results := [.lit (.bool false)], args := [d1, d2, d3] }
  | _ => none }
def TriggerSilentWrongFalsely : Prop := triggerSilentRow.holds Tryz.pinned (OpenSpec.ofChange triggerSilentWrong)

/-- 'cherenkovlaw04.TriggerSilenced': WHATEVER THE INPUT: true; the input reads as it did. -/
def triggerSilencedSpec : ChangeSpec := { name := "triggerSilenced", fn := fun _ => fun
  | [d1, d2, d3] => { results := [.lit (.bool true)], args := [d1, d2, d3] }
  | _ => none }
def triggerSilencedRow : OpenClaim := { program := "ytpobmfeklenpdaagreat", sum := "af57d75ded43070857ed3c8aab9b945265416a316bf55dff58b4be33b3df017e", func := "cherenkov/cherenkovlaw04.TriggerSilenced", spec := "triggerSilenced", unfollowed := true, recurses := true, plainKeys := false, apart := false }
def TriggerSilencedSaid : Prop := triggerSilencedRow.holds Tryz.pinned (OpenSpec.ofChange triggerSilencedSpec)

/-- ITS FALSE NEIGHBOUR: 'it returns false'. Refute it at one input. -/
def triggerSilencedWrong : ChangeSpec := { name := "triggerSilenced", fn := fun _ => fun
  | [d1, d2, d3] => { results := [.lit (.bool false)], args := [d1, d2, d3] }
  | _ => none }
def TriggerSilencedWrongFalsely : Prop := triggerSilencedRow.holds Tryz.pinned (OpenSpec.ofChange triggerSilencedWrong)

/- THE SECOND FORM. 'bulk': how many values and letters a reading holds, each counted each time it is reached (what is shared counts as often as it is met; a slice's spare places count too). A statement '..UptoSaid' is the law's where the arguments, and the package variables that the reading takes, are together of bulk at most 1048576: NARROWER than '..Said'. Prove '..Said' where nothing that the law and all that it calls make is longer than what came in: it says more and counts as full. Else prove '..UptoSaid'. A law counts once. -/
mutual
def uptoBulk {H : Type} : DataW H → Nat
  | .lit (.string bytes) => bytes.length + 1
  | .lit _ => 1
  | .nil => 1
  | .ptr d => uptoBulk d + 1
  | .slice elems spare => uptoBulkAll elems + uptoBulkAll spare + 1
  | .agg parts => uptoBulkAll parts + 1
  | .iface _ d => uptoBulk d + 1
  | .map entries => uptoBulkEntries entries + 1
  | .held _ => 1
def uptoBulkAll {H : Type} : List (DataW H) → Nat
  | [] => 0
  | d :: r => uptoBulk d + uptoBulkAll r
def uptoBulkEntries {H : Type} : List (Lit × DataW H) → Nat
  | [] => 0
  | x :: r => uptoBulkEntry x + uptoBulkEntries r
def uptoBulkEntry {H : Type} : Lit × DataW H → Nat
  | (.string bytes, d) => bytes.length + uptoBulk d + 1
  | (_, d) => uptoBulk d + 1
 end
def uptoSmall : (H : Type) → List (DataW H) → Bool := fun _ ds => decide (uptoBulkAll ds ≤ 1048576)
def OpenSpec.upto (s : _root_.Go.ChangeSpec) : _root_.Go.OpenSpec := { _root_.Go.OpenSpec.ofChange s with cond := some uptoSmall }

/-- 'cherenkovlaw04.TriggerFires', WHERE WHAT IT READS IS OF BULK AT MOST 1048576: true; the input reads as it did. -/
def triggerFiresUptoRow : OpenClaim := { program := "ytpobmfeklenpdaagreat", sum := "af57d75ded43070857ed3c8aab9b945265416a316bf55dff58b4be33b3df017e", func := "cherenkov/cherenkovlaw04.TriggerFires", spec := "triggerFires", unfollowed := true, recurses := true, plainKeys := false, apart := false, narrowed := true }
def TriggerFiresUptoSaid : Prop := triggerFiresUptoRow.holds Tryz.pinned (OpenSpec.upto triggerFiresSpec)

/-- 'cherenkovlaw04.TriggerEvents', WHERE WHAT IT READS IS OF BULK AT MOST 1048576: true; the input reads as it did. -/
def triggerEventsUptoRow : OpenClaim := { program := "ytpobmfeklenpdaagreat", sum := "af57d75ded43070857ed3c8aab9b945265416a316bf55dff58b4be33b3df017e", func := "cherenkov/cherenkovlaw04.TriggerEvents", spec := "triggerEvents", unfollowed := true, recurses := true, plainKeys := false, apart := false, narrowed := true }
def TriggerEventsUptoSaid : Prop := triggerEventsUptoRow.holds Tryz.pinned (OpenSpec.upto triggerEventsSpec)

/-- 'cherenkovlaw04.TriggerArrays', WHERE WHAT IT READS IS OF BULK AT MOST 1048576: true; the input reads as it did. -/
def triggerArraysUptoRow : OpenClaim := { program := "ytpobmfeklenpdaagreat", sum := "af57d75ded43070857ed3c8aab9b945265416a316bf55dff58b4be33b3df017e", func := "cherenkov/cherenkovlaw04.TriggerArrays", spec := "triggerArrays", unfollowed := true, recurses := true, plainKeys := false, apart := false, narrowed := true }
def TriggerArraysUptoSaid : Prop := triggerArraysUptoRow.holds Tryz.pinned (OpenSpec.upto triggerArraysSpec)

/-- 'cherenkovlaw04.TriggerSilent', WHERE WHAT IT READS IS OF BULK AT MOST 1048576: true; the input reads as it did. -/
def triggerSilentUptoRow : OpenClaim := { program := "ytpobmfeklenpdaagreat", sum := "af57d75ded43070857ed3c8aab9b945265416a316bf55dff58b4be33b3df017e", func := "cherenkov/cherenkovlaw04.TriggerSilent", spec := "triggerSilent", unfollowed := true, recurses := true, plainKeys := false, apart := false, narrowed := true }
def TriggerSilentUptoSaid : Prop := triggerSilentUptoRow.holds Tryz.pinned (OpenSpec.upto triggerSilentSpec)

/-- 'cherenkovlaw04.TriggerSilenced', WHERE WHAT IT READS IS OF BULK AT MOST 1048576: true; the input reads as it did. -/
def triggerSilencedUptoRow : OpenClaim := { program := "ytpobmfeklenpdaagreat", sum := "af57d75ded43070857ed3c8aab9b945265416a316bf55dff58b4be33b3df017e", func := "cherenkov/cherenkovlaw04.TriggerSilenced", spec := "triggerSilenced", unfollowed := true, recurses := true, plainKeys := false, apart := false, narrowed := true }
def TriggerSilencedUptoSaid : Prop := triggerSilencedUptoRow.holds Tryz.pinned (OpenSpec.upto triggerSilencedSpec)

end Rows
end Go.Proofs.YtpobmfeklenpdaaGreat
