/-
  NARROWER THAN 'FOR EVERY INPUT', by the rows' own cells (each row's printed sentence says how): IceTurned: laid · IceModels: laid · IceGrids: laid · IcePhotons: laid · IceKept: laid · IceHoles: laid · IceDown: laid · IceTimes: laid · IceEveryModel: laid · IceWays: laid · IceProofs: laid · IceFirst: laid.
  DERIVED. THE GIVEN ROWS OF THIS SEAT. 12 by the template 'for every input the law returns true; each argument reads behind the call as it read before'; 0 by the template 'total and deterministic' (their statements: YtienhiloecfgnaaDoorTotals.lean).
  GIVEN WITH THE SEED: the statements are not yours to turn. If you find one false, say at which input.
  Laid BY PROGRAM, IN A SANDBOX (cutbox-rows.mjs): the forced cells as the released guide's own fill.sh prints them over the translation c1d60a60b5c7a03b… (all of the seat's roots in one cut). By AI agents, Wed Nov 11 2026. No macro, syntax, notation, axiom, sorry.
-/
import Derived.Test.YtienhiloecfgnaaDoorChecked
import GoSem.Claim
import GoSem.ClaimJoined
import GoSem.ClaimMapViews
import Derived.JoinedTies
import Derived.KernelRfl
namespace Go.Proofs.YtienhiloecfgnaaDoor
/- THE CELL 'sum', in the pinned program and in every row, IS THE sha256 OF THE DUMP (.gsa) THAT YtienhiloecfgnaaDoorProg.lean LOADS. Nothing in Lean hashes anything: it is a label: what it is worth is what the hold of that sum in a sandbox is worth. -/
noncomputable def Tryd.pinned : Pinned := { name := "ytienhiloecfgnaadoor", sum := "c1d60a60b5c7a03be1008d27bbbbb23042b9ff9f4dcc4a88a82ba35f2bd5df0c", checked := Tryd.checked }
namespace Rows
def none {H : Type} : Left H := { results := [], args := [] }

/- WHAT THE LISTED PACKAGE-LEVEL VARIABLES READ AS WHEN THE CALL BEGINS. Each datum BY PROGRAM (the guide's laid-datum.mjs) off the statement by which the dump's own 'gosem.cut.vars' lays the variable. In a bare row this is a premise. The card (YtienhiloecfgnaaDoorCards.lean) ties it to the program's text. -/
def laid_cherenkov_ice_sides {H : Type} : DataW H := .agg [.agg [.lit (.int .i64 (-1)), .lit (.int .i64 0)], .agg [.lit (.int .i64 0), .lit (.int .i64 (-1))], .agg [.lit (.int .i64 0), .lit (.int .i64 1)], .agg [.lit (.int .i64 1), .lit (.int .i64 0)]]

/-- 'cherenkovlaw03.IceTurned': WHATEVER THE INPUT: true; the input reads as it did. -/
def iceTurnedSpec : ChangeSpec := { name := "iceTurned", fn := fun _ => fun
  | [d1, d2] => { results := [.lit (.bool true)], args := [d1, d2] }
  | _ => none }
def iceTurnedRow : OpenClaim := { program := "ytienhiloecfgnaadoor", sum := "c1d60a60b5c7a03be1008d27bbbbb23042b9ff9f4dcc4a88a82ba35f2bd5df0c", func := "cherenkov/cherenkovlaw03.IceTurned", spec := "iceTurned", unfollowed := true, recurses := true, named := ["cherenkov/ice.sides"], plainKeys := false, apart := false, laid := [("cherenkov/ice.sides", laid_cherenkov_ice_sides)] }
def IceTurnedSaid : Prop := iceTurnedRow.holds Tryd.pinned (OpenSpec.ofChange iceTurnedSpec)

/-- ITS FALSE NEIGHBOUR: 'it returns false'. Refute it at one input. -/
def iceTurnedWrong : ChangeSpec := { name := "iceTurned", fn := fun _ => fun
  | [d1, d2] => { results := [.lit (.bool false)], args := [d1, d2] }
  | _ => none }
def IceTurnedWrongFalsely : Prop := iceTurnedRow.holds Tryd.pinned (OpenSpec.ofChange iceTurnedWrong)

/-- 'cherenkovlaw03.IceModels': WHATEVER THE INPUT: true; the input reads as it did. -/
def iceModelsSpec : ChangeSpec := { name := "iceModels", fn := fun _ => fun
  | [d1, d2] => { results := [.lit (.bool true)], args := [d1, d2] }
  | _ => none }
def iceModelsRow : OpenClaim := { program := "ytienhiloecfgnaadoor", sum := "c1d60a60b5c7a03be1008d27bbbbb23042b9ff9f4dcc4a88a82ba35f2bd5df0c", func := "cherenkov/cherenkovlaw03.IceModels", spec := "iceModels", unfollowed := true, recurses := true, named := ["cherenkov/ice.sides"], plainKeys := false, apart := false, laid := [("cherenkov/ice.sides", laid_cherenkov_ice_sides)] }
def IceModelsSaid : Prop := iceModelsRow.holds Tryd.pinned (OpenSpec.ofChange iceModelsSpec)

/-- ITS FALSE NEIGHBOUR: 'it returns false'. Refute it at one input. -/
def iceModelsWrong : ChangeSpec := { name := "iceModels", fn := fun _ => fun
  | [d1, d2] => { results := [.lit (.bool false)], args := [d1, d2] }
  | _ => none }
def IceModelsWrongFalsely : Prop := iceModelsRow.holds Tryd.pinned (OpenSpec.ofChange iceModelsWrong)

/-- 'cherenkovlaw03.IceGrids': WHATEVER THE INPUT: true; the input reads as it did. -/
def iceGridsSpec : ChangeSpec := { name := "iceGrids", fn := fun _ => fun
  | [d1, d2] => { results := [.lit (.bool true)], args := [d1, d2] }
  | _ => none }
def iceGridsRow : OpenClaim := { program := "ytienhiloecfgnaadoor", sum := "c1d60a60b5c7a03be1008d27bbbbb23042b9ff9f4dcc4a88a82ba35f2bd5df0c", func := "cherenkov/cherenkovlaw03.IceGrids", spec := "iceGrids", unfollowed := true, recurses := true, named := ["cherenkov/ice.sides"], plainKeys := false, apart := false, laid := [("cherenkov/ice.sides", laid_cherenkov_ice_sides)] }
def IceGridsSaid : Prop := iceGridsRow.holds Tryd.pinned (OpenSpec.ofChange iceGridsSpec)

/-- ITS FALSE NEIGHBOUR: 'it returns false'. Refute it at one input. -/
def iceGridsWrong : ChangeSpec := { name := "iceGrids", fn := fun _ => fun
  | [d1, d2] => { results := [.lit (.bool false)], args := [d1, d2] }
  | _ => none }
def IceGridsWrongFalsely : Prop := iceGridsRow.holds Tryd.pinned (OpenSpec.ofChange iceGridsWrong)

/-- 'cherenkovlaw03.IcePhotons': WHATEVER THE INPUT: true; the input reads as it did. -/
def icePhotonsSpec : ChangeSpec := { name := "icePhotons", fn := fun _ => fun
  | [d1, d2, d3] => { results := [.lit (.bool true)], args := [d1, d2, d3] }
  | _ => none }
def icePhotonsRow : OpenClaim := { program := "ytienhiloecfgnaadoor", sum := "c1d60a60b5c7a03be1008d27bbbbb23042b9ff9f4dcc4a88a82ba35f2bd5df0c", func := "cherenkov/cherenkovlaw03.IcePhotons", spec := "icePhotons", unfollowed := true, recurses := true, named := ["cherenkov/ice.sides"], plainKeys := false, apart := false, laid := [("cherenkov/ice.sides", laid_cherenkov_ice_sides)] }
def IcePhotonsSaid : Prop := icePhotonsRow.holds Tryd.pinned (OpenSpec.ofChange icePhotonsSpec)

/-- ITS FALSE NEIGHBOUR: 'it returns false'. Refute it at one input. -/
def icePhotonsWrong : ChangeSpec := { name := "icePhotons", fn := fun _ => fun
  | [d1, d2, d3] => { results := [.lit (.bool false)], args := [d1, d2, d3] }
  | _ => none }
def IcePhotonsWrongFalsely : Prop := icePhotonsRow.holds Tryd.pinned (OpenSpec.ofChange icePhotonsWrong)

/-- 'cherenkovlaw03.IceKept': WHATEVER THE INPUT: true; the input reads as it did. -/
def iceKeptSpec : ChangeSpec := { name := "iceKept", fn := fun _ => fun
  | [d1, d2, d3] => { results := [.lit (.bool true)], args := [d1, d2, d3] }
  | _ => none }
def iceKeptRow : OpenClaim := { program := "ytienhiloecfgnaadoor", sum := "c1d60a60b5c7a03be1008d27bbbbb23042b9ff9f4dcc4a88a82ba35f2bd5df0c", func := "cherenkov/cherenkovlaw03.IceKept", spec := "iceKept", unfollowed := true, recurses := true, named := ["cherenkov/ice.sides"], plainKeys := false, apart := false, laid := [("cherenkov/ice.sides", laid_cherenkov_ice_sides)] }
def IceKeptSaid : Prop := iceKeptRow.holds Tryd.pinned (OpenSpec.ofChange iceKeptSpec)

/-- ITS FALSE NEIGHBOUR: 'it returns false'. Refute it at one input. -/
def iceKeptWrong : ChangeSpec := { name := "iceKept", fn := fun _ => fun
  | [d1, d2, d3] => { results := [.lit (.bool false)], args := [d1, d2, d3] }
  | _ => none }
def IceKeptWrongFalsely : Prop := iceKeptRow.holds Tryd.pinned (OpenSpec.ofChange iceKeptWrong)

/-- 'cherenkovlaw03.IceHoles': WHATEVER THE INPUT: true; the input reads as it did. -/
def iceHolesSpec : ChangeSpec := { name := "iceHoles", fn := fun _ => fun
  | [d1, d2] => { results := [.lit (.bool true)], args := [d1, d2] }
  | _ => none }
def iceHolesRow : OpenClaim := { program := "ytienhiloecfgnaadoor", sum := "c1d60a60b5c7a03be1008d27bbbbb23042b9ff9f4dcc4a88a82ba35f2bd5df0c", func := "cherenkov/cherenkovlaw03.IceHoles", spec := "iceHoles", unfollowed := true, recurses := true, named := ["cherenkov/ice.sides"], plainKeys := false, apart := false, laid := [("cherenkov/ice.sides", laid_cherenkov_ice_sides)] }
def IceHolesSaid : Prop := iceHolesRow.holds Tryd.pinned (OpenSpec.ofChange iceHolesSpec)

/-- ITS FALSE NEIGHBOUR: 'it returns false'. Refute it at one input. -/
def iceHolesWrong : ChangeSpec := { name := "iceHoles", fn := fun _ => fun
  | [d1, d2] => { results := [.lit (.bool false)], args := [d1, d2] }
  | _ => none }
def IceHolesWrongFalsely : Prop := iceHolesRow.holds Tryd.pinned (OpenSpec.ofChange iceHolesWrong)

/-- 'cherenkovlaw03.IceDown': WHATEVER THE INPUT: true; the input reads as it did. -/
def iceDownSpec : ChangeSpec := { name := "iceDown", fn := fun _ => fun
  | [d1, d2] => { results := [.lit (.bool true)], args := [d1, d2] }
  | _ => none }
def iceDownRow : OpenClaim := { program := "ytienhiloecfgnaadoor", sum := "c1d60a60b5c7a03be1008d27bbbbb23042b9ff9f4dcc4a88a82ba35f2bd5df0c", func := "cherenkov/cherenkovlaw03.IceDown", spec := "iceDown", unfollowed := true, recurses := true, named := ["cherenkov/ice.sides"], plainKeys := false, apart := false, laid := [("cherenkov/ice.sides", laid_cherenkov_ice_sides)] }
def IceDownSaid : Prop := iceDownRow.holds Tryd.pinned (OpenSpec.ofChange iceDownSpec)

/-- ITS FALSE NEIGHBOUR: 'it returns false'. Refute it at one input. -/
def iceDownWrong : ChangeSpec := { name := "iceDown", fn := fun _ => fun
  | [d1, d2] => { results := [.lit (.bool false)], args := [d1, d2] }
  | _ => none }
def IceDownWrongFalsely : Prop := iceDownRow.holds Tryd.pinned (OpenSpec.ofChange iceDownWrong)

/-- 'cherenkovlaw03.IceTimes': WHATEVER THE INPUT: true; the input reads as it did. -/
def iceTimesSpec : ChangeSpec := { name := "iceTimes", fn := fun _ => fun
  | [d1, d2, d3] => { results := [.lit (.bool true)], args := [d1, d2, d3] }
  | _ => none }
def iceTimesRow : OpenClaim := { program := "ytienhiloecfgnaadoor", sum := "c1d60a60b5c7a03be1008d27bbbbb23042b9ff9f4dcc4a88a82ba35f2bd5df0c", func := "cherenkov/cherenkovlaw03.IceTimes", spec := "iceTimes", unfollowed := true, recurses := true, named := ["cherenkov/ice.sides"], plainKeys := false, apart := false, laid := [("cherenkov/ice.sides", laid_cherenkov_ice_sides)] }
def IceTimesSaid : Prop := iceTimesRow.holds Tryd.pinned (OpenSpec.ofChange iceTimesSpec)

/-- ITS FALSE NEIGHBOUR: 'it returns false'. Refute it at one input. -/
def iceTimesWrong : ChangeSpec := { name := "iceTimes", fn := fun _ => fun
  | [d1, d2, d3] => { results := [.lit (.bool false)], args := [d1, d2, d3] }
  | _ => none }
def IceTimesWrongFalsely : Prop := iceTimesRow.holds Tryd.pinned (OpenSpec.ofChange iceTimesWrong)

/-- 'cherenkovlaw03.IceEveryModel': WHATEVER THE INPUT: true; the input reads as it did. -/
def iceEveryModelSpec : ChangeSpec := { name := "iceEveryModel", fn := fun _ => fun
  | [d1, d2, d3] => { results := [.lit (.bool true)], args := [d1, d2, d3] }
  | _ => none }
def iceEveryModelRow : OpenClaim := { program := "ytienhiloecfgnaadoor", sum := "c1d60a60b5c7a03be1008d27bbbbb23042b9ff9f4dcc4a88a82ba35f2bd5df0c", func := "cherenkov/cherenkovlaw03.IceEveryModel", spec := "iceEveryModel", unfollowed := true, recurses := true, named := ["cherenkov/ice.sides"], plainKeys := false, apart := false, laid := [("cherenkov/ice.sides", laid_cherenkov_ice_sides)] }
def IceEveryModelSaid : Prop := iceEveryModelRow.holds Tryd.pinned (OpenSpec.ofChange iceEveryModelSpec)

/-- ITS FALSE NEIGHBOUR: 'it returns false'. Refute it at one input. -/
def iceEveryModelWrong : ChangeSpec := { name := "iceEveryModel", fn := fun _ => fun
  | [d1, d2, d3] => { results := [.lit (.bool false)], args := [d1, d2, d3] }
  | _ => none }
def IceEveryModelWrongFalsely : Prop := iceEveryModelRow.holds Tryd.pinned (OpenSpec.ofChange iceEveryModelWrong)

/-- 'cherenkovlaw03.IceWays': WHATEVER THE INPUT: true; the input reads as it did. -/
def iceWaysSpec : ChangeSpec := { name := "iceWays", fn := fun _ => fun
  | [d1, d2, d3] => { results := [.lit (.bool true)], args := [d1, d2, d3] }
  | _ => none }
def iceWaysRow : OpenClaim := { program := "ytienhiloecfgnaadoor", sum := "c1d60a60b5c7a03be1008d27bbbbb23042b9ff9f4dcc4a88a82ba35f2bd5df0c", func := "cherenkov/cherenkovlaw03.IceWays", spec := "iceWays", unfollowed := true, recurses := true, named := ["cherenkov/ice.sides"], plainKeys := false, apart := false, laid := [("cherenkov/ice.sides", laid_cherenkov_ice_sides)] }
def IceWaysSaid : Prop := iceWaysRow.holds Tryd.pinned (OpenSpec.ofChange iceWaysSpec)

/-- ITS FALSE NEIGHBOUR: 'it returns false'. Refute it at one input. -/
def iceWaysWrong : ChangeSpec := { name := "iceWays", fn := fun _ => fun
  | [d1, d2, d3] => { results := [.lit (.bool false)], args := [d1, d2, d3] }
  | _ => none }
def IceWaysWrongFalsely : Prop := iceWaysRow.holds Tryd.pinned (OpenSpec.ofChange iceWaysWrong)

/-- 'cherenkovlaw03.IceProofs': WHATEVER THE INPUT: true; the input reads as it did. -/
def iceProofsSpec : ChangeSpec := { name := "iceProofs", fn := fun _ => fun
  | [d1, d2] => { results := [.lit (.bool true)], args := [d1, d2] }
  | _ => none }
def iceProofsRow : OpenClaim := { program := "ytienhiloecfgnaadoor", sum := "c1d60a60b5c7a03be1008d27bbbbb23042b9ff9f4dcc4a88a82ba35f2bd5df0c", func := "cherenkov/cherenkovlaw03.IceProofs", spec := "iceProofs", unfollowed := true, recurses := true, named := ["cherenkov/ice.sides"], plainKeys := false, apart := false, laid := [("cherenkov/ice.sides", laid_cherenkov_ice_sides)] }
def IceProofsSaid : Prop := iceProofsRow.holds Tryd.pinned (OpenSpec.ofChange iceProofsSpec)

/-- ITS FALSE NEIGHBOUR: 'it returns false'. Refute it at one input. -/
def iceProofsWrong : ChangeSpec := { name := "iceProofs", fn := fun _ => fun
  | [d1, d2] => { results := [.lit (.bool false)], args := [d1, d2] }
  | _ => none }
def IceProofsWrongFalsely : Prop := iceProofsRow.holds Tryd.pinned (OpenSpec.ofChange iceProofsWrong)

/-- 'cherenkovlaw03.IceFirst': WHATEVER THE INPUT: true; the input reads as it did. -/
def iceFirstSpec : ChangeSpec := { name := "iceFirst", fn := fun _ => fun
  | [d1, d2, d3] => { results := [.lit (.bool true)], args := [d1, d2, d3] }
  | _ => none }
def iceFirstRow : OpenClaim := { program := "ytienhiloecfgnaadoor", sum := "c1d60a60b5c7a03be1008d27bbbbb23042b9ff9f4dcc4a88a82ba35f2bd5df0c", func := "cherenkov/cherenkovlaw03.IceFirst", spec := "iceFirst", unfollowed := true, recurses := true, named := ["cherenkov/ice.sides"], plainKeys := false, apart := false, laid := [("cherenkov/ice.sides", laid_cherenkov_ice_sides)] }
def IceFirstSaid : Prop := iceFirstRow.holds Tryd.pinned (OpenSpec.ofChange iceFirstSpec)

/-- ITS FALSE NEIGHBOUR: 'it returns false'. Refute it at one input. -/
def iceFirstWrong : ChangeSpec := { name := "iceFirst", fn := fun _ => fun
  | [d1, d2, d3] => { results := [.lit (.bool false)], args := [d1, d2, d3] }
  | _ => none }
def IceFirstWrongFalsely : Prop := iceFirstRow.holds Tryd.pinned (OpenSpec.ofChange iceFirstWrong)

/- THE SECOND FORM. 'bulk': how many values and letters a reading holds, each counted each time it is reached (what is shared counts as often as it is met; a slice's spare places count too). A statement '..UptoSaid' is the law's where the arguments, and the package variables that the reading takes, are together of bulk at most 1048576: NARROWER than '..Said'. Prove '..Said' where nothing that the law and all that it calls make is longer than what came in: it says more and counts as full. Else prove '..UptoSaid'. A law counts once. -/
mutual
def uptoBulk {H : Type} : DataW H → Nat
  | .lit (.string bytes) => bytes.length + 1
  | .lit _ => 1
  | .nil => 1
  | .ptr d => uptoBulk d + 1
  | .slice elems spare => uptoBulkAll elems + uptoBulkAll spare + 1
  | .agg parts => uptoBulkAll parts + 1
  | .iface _ d => uptoBulk d + 1
  | .map entries => uptoBulkEntries entries + 1
  | .held _ => 1
def uptoBulkAll {H : Type} : List (DataW H) → Nat
  | [] => 0
  | d :: r => uptoBulk d + uptoBulkAll r
def uptoBulkEntries {H : Type} : List (Lit × DataW H) → Nat
  | [] => 0
  | x :: r => uptoBulkEntry x + uptoBulkEntries r
def uptoBulkEntry {H : Type} : Lit × DataW H → Nat
  | (.string bytes, d) => bytes.length + uptoBulk d + 1
  | (_, d) => uptoBulk d + 1
 end
def uptoSmall : (H : Type) → List (DataW H) → Bool := fun _ ds => decide (uptoBulkAll ds ≤ 1048576)
def OpenSpec.upto (s : _root_.Go.ChangeSpec) : _root_.Go.OpenSpec := { _root_.Go.OpenSpec.ofChange s with cond := some uptoSmall }

/-- 'cherenkovlaw03.IceTurned', WHERE WHAT IT READS IS OF BULK AT MOST 1048576: true; the input reads as it did. -/
def iceTurnedUptoRow : OpenClaim := { program := "ytienhiloecfgnaadoor", sum := "c1d60a60b5c7a03be1008d27bbbbb23042b9ff9f4dcc4a88a82ba35f2bd5df0c", func := "cherenkov/cherenkovlaw03.IceTurned", spec := "iceTurned", unfollowed := true, recurses := true, named := ["cherenkov/ice.sides"], plainKeys := false, apart := false, laid := [("cherenkov/ice.sides", laid_cherenkov_ice_sides)], narrowed := true }
def IceTurnedUptoSaid : Prop := iceTurnedUptoRow.holds Tryd.pinned (OpenSpec.upto iceTurnedSpec)

/-- 'cherenkovlaw03.IceModels', WHERE WHAT IT READS IS OF BULK AT MOST 1048576: true; the input reads as it did. -/
def iceModelsUptoRow : OpenClaim := { program := "ytienhiloecfgnaadoor", sum := "c1d60a60b5c7a03be1008d27bbbbb23042b9ff9f4dcc4a88a82ba35f2bd5df0c", func := "cherenkov/cherenkovlaw03.IceModels", spec := "iceModels", unfollowed := true, recurses := true, named := ["cherenkov/ice.sides"], plainKeys := false, apart := false, laid := [("cherenkov/ice.sides", laid_cherenkov_ice_sides)], narrowed := true }
def IceModelsUptoSaid : Prop := iceModelsUptoRow.holds Tryd.pinned (OpenSpec.upto iceModelsSpec)

/-- 'cherenkovlaw03.IceGrids', WHERE WHAT IT READS IS OF BULK AT MOST 1048576: true; the input reads as it did. -/
def iceGridsUptoRow : OpenClaim := { program := "ytienhiloecfgnaadoor", sum := "c1d60a60b5c7a03be1008d27bbbbb23042b9ff9f4dcc4a88a82ba35f2bd5df0c", func := "cherenkov/cherenkovlaw03.IceGrids", spec := "iceGrids", unfollowed := true, recurses := true, named := ["cherenkov/ice.sides"], plainKeys := false, apart := false, laid := [("cherenkov/ice.sides", laid_cherenkov_ice_sides)], narrowed := true }
def IceGridsUptoSaid : Prop := iceGridsUptoRow.holds Tryd.pinned (OpenSpec.upto iceGridsSpec)

/-- 'cherenkovlaw03.IcePhotons', WHERE WHAT IT READS IS OF BULK AT MOST 1048576: true; the input reads as it did. -/
def icePhotonsUptoRow : OpenClaim := { program := "ytienhiloecfgnaadoor", sum := "c1d60a60b5c7a03be1008d27bbbbb23042b9ff9f4dcc4a88a82ba35f2bd5df0c", func := "cherenkov/cherenkovlaw03.IcePhotons", spec := "icePhotons", unfollowed := true, recurses := true, named := ["cherenkov/ice.sides"], plainKeys := false, apart := false, laid := [("cherenkov/ice.sides", laid_cherenkov_ice_sides)], narrowed := true }
def IcePhotonsUptoSaid : Prop := icePhotonsUptoRow.holds Tryd.pinned (OpenSpec.upto icePhotonsSpec)

/-- 'cherenkovlaw03.IceKept', WHERE WHAT IT READS IS OF BULK AT MOST 1048576: true; the input reads as it did. -/
def iceKeptUptoRow : OpenClaim := { program := "ytienhiloecfgnaadoor", sum := "c1d60a60b5c7a03be1008d27bbbbb23042b9ff9f4dcc4a88a82ba35f2bd5df0c", func := "cherenkov/cherenkovlaw03.IceKept", spec := "iceKept", unfollowed := true, recurses := true, named := ["cherenkov/ice.sides"], plainKeys := false, apart := false, laid := [("cherenkov/ice.sides", laid_cherenkov_ice_sides)], narrowed := true }
def IceKeptUptoSaid : Prop := iceKeptUptoRow.holds Tryd.pinned (OpenSpec.upto iceKeptSpec)

/-- 'cherenkovlaw03.IceHoles', WHERE WHAT IT READS IS OF BULK AT MOST 1048576: true; the input reads as it did. -/
def iceHolesUptoRow : OpenClaim := { program := "ytienhiloecfgnaadoor", sum := "c1d60a60b5c7a03be1008d27bbbbb23042b9ff9f4dcc4a88a82ba35f2bd5df0c", func := "cherenkov/cherenkovlaw03.IceHoles", spec := "iceHoles", unfollowed := true, recurses := true, named := ["cherenkov/ice.sides"], plainKeys := false, apart := false, laid := [("cherenkov/ice.sides", laid_cherenkov_ice_sides)], narrowed := true }
def IceHolesUptoSaid : Prop := iceHolesUptoRow.holds Tryd.pinned (OpenSpec.upto iceHolesSpec)

/-- 'cherenkovlaw03.IceDown', WHERE WHAT IT READS IS OF BULK AT MOST 1048576: true; the input reads as it did. -/
def iceDownUptoRow : OpenClaim := { program := "ytienhiloecfgnaadoor", sum := "c1d60a60b5c7a03be1008d27bbbbb23042b9ff9f4dcc4a88a82ba35f2bd5df0c", func := "cherenkov/cherenkovlaw03.IceDown", spec := "iceDown", unfollowed := true, recurses := true, named := ["cherenkov/ice.sides"], plainKeys := false, apart := false, laid := [("cherenkov/ice.sides", laid_cherenkov_ice_sides)], narrowed := true }
def IceDownUptoSaid : Prop := iceDownUptoRow.holds Tryd.pinned (OpenSpec.upto iceDownSpec)

/-- 'cherenkovlaw03.IceTimes', WHERE WHAT IT READS IS OF BULK AT MOST 1048576: true; the input reads as it did. -/
def iceTimesUptoRow : OpenClaim := { program := "ytienhiloecfgnaadoor", sum := "c1d60a60b5c7a03be1008d27bbbbb23042b9ff9f4dcc4a88a82ba35f2bd5df0c", func := "cherenkov/cherenkovlaw03.IceTimes", spec := "iceTimes", unfollowed := true, recurses := true, named := ["cherenkov/ice.sides"], plainKeys := false, apart := false, laid := [("cherenkov/ice.sides", laid_cherenkov_ice_sides)], narrowed := true }
def IceTimesUptoSaid : Prop := iceTimesUptoRow.holds Tryd.pinned (OpenSpec.upto iceTimesSpec)

/-- 'cherenkovlaw03.IceEveryModel', WHERE WHAT IT READS IS OF BULK AT MOST 1048576: true; the input reads as it did. -/
def iceEveryModelUptoRow : OpenClaim := { program := "ytienhiloecfgnaadoor", sum := "c1d60a60b5c7a03be1008d27bbbbb23042b9ff9f4dcc4a88a82ba35f2bd5df0c", func := "cherenkov/cherenkovlaw03.IceEveryModel", spec := "iceEveryModel", unfollowed := true, recurses := true, named := ["cherenkov/ice.sides"], plainKeys := false, apart := false, laid := [("cherenkov/ice.sides", laid_cherenkov_ice_sides)], narrowed := true }
def IceEveryModelUptoSaid : Prop := iceEveryModelUptoRow.holds Tryd.pinned (OpenSpec.upto iceEveryModelSpec)

/-- 'cherenkovlaw03.IceWays', WHERE WHAT IT READS IS OF BULK AT MOST 1048576: true; the input reads as it did. -/
def iceWaysUptoRow : OpenClaim := { program := "ytienhiloecfgnaadoor", sum := "c1d60a60b5c7a03be1008d27bbbbb23042b9ff9f4dcc4a88a82ba35f2bd5df0c", func := "cherenkov/cherenkovlaw03.IceWays", spec := "iceWays", unfollowed := true, recurses := true, named := ["cherenkov/ice.sides"], plainKeys := false, apart := false, laid := [("cherenkov/ice.sides", laid_cherenkov_ice_sides)], narrowed := true }
def IceWaysUptoSaid : Prop := iceWaysUptoRow.holds Tryd.pinned (OpenSpec.upto iceWaysSpec)

/-- 'cherenkovlaw03.IceProofs', WHERE WHAT IT READS IS OF BULK AT MOST 1048576: true; the input reads as it did. -/
def iceProofsUptoRow : OpenClaim := { program := "ytienhiloecfgnaadoor", sum := "c1d60a60b5c7a03be1008d27bbbbb23042b9ff9f4dcc4a88a82ba35f2bd5df0c", func := "cherenkov/cherenkovlaw03.IceProofs", spec := "iceProofs", unfollowed := true, recurses := true, named := ["cherenkov/ice.sides"], plainKeys := false, apart := false, laid := [("cherenkov/ice.sides", laid_cherenkov_ice_sides)], narrowed := true }
def IceProofsUptoSaid : Prop := iceProofsUptoRow.holds Tryd.pinned (OpenSpec.upto iceProofsSpec)

/-- 'cherenkovlaw03.IceFirst', WHERE WHAT IT READS IS OF BULK AT MOST 1048576: true; the input reads as it did. -/
def iceFirstUptoRow : OpenClaim := { program := "ytienhiloecfgnaadoor", sum := "c1d60a60b5c7a03be1008d27bbbbb23042b9ff9f4dcc4a88a82ba35f2bd5df0c", func := "cherenkov/cherenkovlaw03.IceFirst", spec := "iceFirst", unfollowed := true, recurses := true, named := ["cherenkov/ice.sides"], plainKeys := false, apart := false, laid := [("cherenkov/ice.sides", laid_cherenkov_ice_sides)], narrowed := true }
def IceFirstUptoSaid : Prop := iceFirstUptoRow.holds Tryd.pinned (OpenSpec.upto iceFirstSpec)

end Rows
end Go.Proofs.YtienhiloecfgnaaDoor
