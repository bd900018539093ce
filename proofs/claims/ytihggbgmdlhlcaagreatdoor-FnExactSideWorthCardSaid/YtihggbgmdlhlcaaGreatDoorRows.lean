/-
  NARROWER THAN 'FOR EVERY INPUT', by the rows' own cells (each row's printed sentence says how): FnExactCountHidings: laid · FnExactNearestGoal: laid · FnExactHiddenThreat: laid · FnExactHolderOf: laid · FnExactGroundOf: laid · FnExactMobilityOf: laid · FnExactIsMachine: laid · FnExactUnitWorth: laid · FnExactGoalPoints: laid · FnExactSideWorth: laid · FnExactTotalPoints: laid · FnExactPointsNeeded: laid.
  DERIVED. THE GIVEN ROWS OF THIS SEAT. 12 by the template 'for every input the law returns true; each argument reads behind the call as it read before'; 0 by the template 'total and deterministic' (their statements: YtihggbgmdlhlcaaGreatDoorTotals.lean).
  GIVEN WITH THE SEED: the statements are not yours to turn. If you find one false, say at which input.
  Laid BY PROGRAM, IN A SANDBOX (cutbox-rows.mjs): the forced cells as the released guide's own fill.sh prints them over the translation c54ce465e6db02ad… (all of the seat's roots in one cut). By AI agents, Wed Nov 11 2026. No macro, syntax, notation, axiom, sorry.
-/
import Derived.Test.YtihggbgmdlhlcaaGreatDoorChecked
import GoSem.Claim
import GoSem.ClaimJoined
import GoSem.ClaimMapViews
import Derived.JoinedTies
import Derived.KernelRfl
namespace Go.Proofs.YtihggbgmdlhlcaaGreatDoor
/- THE CELL 'sum', in the pinned program and in every row, IS THE sha256 OF THE DUMP (.gsa) THAT YtihggbgmdlhlcaaGreatDoorProg.lean LOADS. Nothing in Lean hashes anything: it is a label: what it is worth is what the hold of that sum in a sandbox is worth. -/
noncomputable def Tryz.pinned : Pinned := { name := "ytihggbgmdlhlcaagreatdoor", sum := "c54ce465e6db02ad672b17c566d42fc8129f1e9c5f6e904cd41d12c29eb0bb31", checked := Tryz.checked }
namespace Rows
def none {H : Type} : Left H := { results := [], args := [] }

/- WHAT THE LISTED PACKAGE-LEVEL VARIABLES READ AS WHEN THE CALL BEGINS. Each datum BY PROGRAM (the guide's laid-datum.mjs) off the statement by which the dump's own 'gosem.cut.vars' lays the variable. In a bare row this is a premise. The card (YtihggbgmdlhlcaaGreatDoorCards.lean) ties it to the program's text. -/
def laid_loop_example_g00886_impl_directions {H : Type} : DataW H := .agg [.agg [.lit (.int .i64 1), .lit (.int .i64 0)], .agg [.lit (.int .i64 1), .lit (.int .i64 (-1))], .agg [.lit (.int .i64 0), .lit (.int .i64 (-1))], .agg [.lit (.int .i64 (-1)), .lit (.int .i64 0)], .agg [.lit (.int .i64 (-1)), .lit (.int .i64 1)], .agg [.lit (.int .i64 0), .lit (.int .i64 1)]]

/-- 'laws.FnExactCountHidings': WHATEVER THE INPUT: true; the input reads as it did. -/
def fnExactCountHidingsSpec : ChangeSpec := { name := "fnExactCountHidings", vars := ["loop.example/g00886/impl.directions"], fn := fun _ => fun
  | [d1, d2, d3, d4, g1] => { results := [.lit (.bool true)], args := [d1, d2, d3, d4], vars := [g1] }
  | _ => none }
def fnExactCountHidingsRow : OpenClaim := { program := "ytihggbgmdlhlcaagreatdoor", sum := "c54ce465e6db02ad672b17c566d42fc8129f1e9c5f6e904cd41d12c29eb0bb31", func := "loop.example/g00886/laws.FnExactCountHidings", spec := "fnExactCountHidings", unfollowed := true, recurses := true, named := ["loop.example/g00886/impl.directions"], apart := false, laid := [("loop.example/g00886/impl.directions", laid_loop_example_g00886_impl_directions)] }
def FnExactCountHidingsSaid : Prop := fnExactCountHidingsRow.holds Tryz.pinned (OpenSpec.ofChange fnExactCountHidingsSpec)

/-- ITS FALSE NEIGHBOUR: 'it returns false'. Refute it at one input. -/
def fnExactCountHidingsWrong : ChangeSpec := { name := "fnExactCountHidings", vars := ["loop.example/g00886/impl.directions"], fn := fun _ => fun
  | [d1, d2, d3, d4, g1] => { results := [.lit (.bool false)], args := [d1, d2, d3, d4], vars := [g1] }
  | _ => none }
def FnExactCountHidingsWrongFalsely : Prop := fnExactCountHidingsRow.holds Tryz.pinned (OpenSpec.ofChange fnExactCountHidingsWrong)

/-- 'laws.FnExactNearestGoal': WHATEVER THE INPUT: true; the input reads as it did. -/
def fnExactNearestGoalSpec : ChangeSpec := { name := "fnExactNearestGoal", vars := ["loop.example/g00886/impl.directions"], fn := fun _ => fun
  | [d1, d2, d3, d4, g1] => { results := [.lit (.bool true)], args := [d1, d2, d3, d4], vars := [g1] }
  | _ => none }
def fnExactNearestGoalRow : OpenClaim := { program := "ytihggbgmdlhlcaagreatdoor", sum := "c54ce465e6db02ad672b17c566d42fc8129f1e9c5f6e904cd41d12c29eb0bb31", func := "loop.example/g00886/laws.FnExactNearestGoal", spec := "fnExactNearestGoal", unfollowed := true, recurses := true, named := ["loop.example/g00886/impl.directions"], apart := false, laid := [("loop.example/g00886/impl.directions", laid_loop_example_g00886_impl_directions)] }
def FnExactNearestGoalSaid : Prop := fnExactNearestGoalRow.holds Tryz.pinned (OpenSpec.ofChange fnExactNearestGoalSpec)

/-- ITS FALSE NEIGHBOUR: 'it returns false'. Refute it at one input. -/
def fnExactNearestGoalWrong : ChangeSpec := { name := "fnExactNearestGoal", vars := ["loop.example/g00886/impl.directions"], fn := fun _ => fun
  | [d1, d2, d3, d4, g1] => { results := [.lit (.bool false)], args := [d1, d2, d3, d4], vars := [g1] }
  | _ => none }
def FnExactNearestGoalWrongFalsely : Prop := fnExactNearestGoalRow.holds Tryz.pinned (OpenSpec.ofChange fnExactNearestGoalWrong)

/-- 'laws.FnExactHiddenThreat': WHATEVER THE INPUT: true; the input reads as it did. -/
def fnExactHiddenThreatSpec : ChangeSpec := { name := "fnExactHiddenThreat", vars := ["loop.example/g00886/impl.directions"], fn := fun _ => fun
  | [d1, d2, d3, g1] => { results := [.lit (.bool true)], args := [d1, d2, d3], vars := [g1] }
  | _ => none }
def fnExactHiddenThreatRow : OpenClaim := { program := "ytihggbgmdlhlcaagreatdoor", sum := "c54ce465e6db02ad672b17c566d42fc8129f1e9c5f6e904cd41d12c29eb0bb31", func := "loop.example/g00886/laws.FnExactHiddenThreat", spec := "fnExactHiddenThreat", unfollowed := true, recurses := true, named := ["loop.example/g00886/impl.directions"], apart := false, laid := [("loop.example/g00886/impl.directions", laid_loop_example_g00886_impl_directions)] }
def FnExactHiddenThreatSaid : Prop := fnExactHiddenThreatRow.holds Tryz.pinned (OpenSpec.ofChange fnExactHiddenThreatSpec)

/-- ITS FALSE NEIGHBOUR: 'it returns false'. Refute it at one input. -/
def fnExactHiddenThreatWrong : ChangeSpec := { name := "fnExactHiddenThreat", vars := ["loop.example/g00886/impl.directions"], fn := fun _ => fun
  | [d1, d2, d3, g1] => { results := [.lit (.bool false)], args := [d1, d2, d3], vars := [g1] }
  | _ => none }
def FnExactHiddenThreatWrongFalsely : Prop := fnExactHiddenThreatRow.holds Tryz.pinned (OpenSpec.ofChange fnExactHiddenThreatWrong)

/-- 'laws.FnExactHolderOf': WHATEVER THE INPUT: true; the input reads as it did. -/
def fnExactHolderOfSpec : ChangeSpec := { name := "fnExactHolderOf", vars := ["loop.example/g00886/impl.directions"], fn := fun _ => fun
  | [d1, d2, d3, g1] => { results := [.lit (.bool true)], args := [d1, d2, d3], vars := [g1] }
  | _ => none }
def fnExactHolderOfRow : OpenClaim := { program := "ytihggbgmdlhlcaagreatdoor", sum := "c54ce465e6db02ad672b17c566d42fc8129f1e9c5f6e904cd41d12c29eb0bb31", func := "loop.example/g00886/laws.FnExactHolderOf", spec := "fnExactHolderOf", unfollowed := true, recurses := true, named := ["loop.example/g00886/impl.directions"], apart := false, laid := [("loop.example/g00886/impl.directions", laid_loop_example_g00886_impl_directions)] }
def FnExactHolderOfSaid : Prop := fnExactHolderOfRow.holds Tryz.pinned (OpenSpec.ofChange fnExactHolderOfSpec)

/-- ITS FALSE NEIGHBOUR: 'it returns false'. Refute it at one input. -/
def fnExactHolderOfWrong : ChangeSpec := { name := "fnExactHolderOf", vars := ["loop.example/g00886/impl.directions"], fn := fun _ => fun
  | [d1, d2, d3, g1] => { results := [.lit (.bool false)], args := [d1, d2, d3], vars := [g1] }
  | _ => none }
def FnExactHolderOfWrongFalsely : Prop := fnExactHolderOfRow.holds Tryz.pinned (OpenSpec.ofChange fnExactHolderOfWrong)

/-- 'laws.FnExactGroundOf': WHATEVER THE INPUT: true; the input reads as it did. -/
def fnExactGroundOfSpec : ChangeSpec := { name := "fnExactGroundOf", vars := ["loop.example/g00886/impl.directions"], fn := fun _ => fun
  | [d1, d2, d3, g1] => { results := [.lit (.bool true)], args := [d1, d2, d3], vars := [g1] }
  | _ => none }
def fnExactGroundOfRow : OpenClaim := { program := "ytihggbgmdlhlcaagreatdoor", sum := "c54ce465e6db02ad672b17c566d42fc8129f1e9c5f6e904cd41d12c29eb0bb31", func := "loop.example/g00886/laws.FnExactGroundOf", spec := "fnExactGroundOf", unfollowed := true, recurses := true, named := ["loop.example/g00886/impl.directions"], apart := false, laid := [("loop.example/g00886/impl.directions", laid_loop_example_g00886_impl_directions)] }
def FnExactGroundOfSaid : Prop := fnExactGroundOfRow.holds Tryz.pinned (OpenSpec.ofChange fnExactGroundOfSpec)

/-- ITS FALSE NEIGHBOUR: 'it returns false'. Refute it at one input. -/
def fnExactGroundOfWrong : ChangeSpec := { name := "fnExactGroundOf", vars := ["loop.example/g00886/impl.directions"], fn := fun _ => fun
  | [d1, d2, d3, g1] => { results := [.lit (.bool false)], args := [d1, d2, d3], vars := [g1] }
  | _ => none }
def FnExactGroundOfWrongFalsely : Prop := fnExactGroundOfRow.holds Tryz.pinned (OpenSpec.ofChange fnExactGroundOfWrong)

/-- 'laws.FnExactMobilityOf': WHATEVER THE INPUT: true; the input reads as it did. -/
def fnExactMobilityOfSpec : ChangeSpec := { name := "fnExactMobilityOf", vars := ["loop.example/g00886/impl.directions"], fn := fun _ => fun
  | [d1, d2, d3, g1] => { results := [.lit (.bool true)], args := [d1, d2, d3], vars := [g1] }
  | _ => none }
def fnExactMobilityOfRow : OpenClaim := { program := "ytihggbgmdlhlcaagreatdoor", sum := "c54ce465e6db02ad672b17c566d42fc8129f1e9c5f6e904cd41d12c29eb0bb31", func := "loop.example/g00886/laws.FnExactMobilityOf", spec := "fnExactMobilityOf", unfollowed := true, recurses := true, named := ["loop.example/g00886/impl.directions"], apart := false, laid := [("loop.example/g00886/impl.directions", laid_loop_example_g00886_impl_directions)] }
def FnExactMobilityOfSaid : Prop := fnExactMobilityOfRow.holds Tryz.pinned (OpenSpec.ofChange fnExactMobilityOfSpec)

/-- ITS FALSE NEIGHBOUR: 'it returns false'. Refute it at one input. -/
def fnExactMobilityOfWrong : ChangeSpec := { name := "fnExactMobilityOf", vars := ["loop.example/g00886/impl.directions"], fn := fun _ => fun
  | [d1, d2, d3, g1] => { results := [.lit (.bool false)], args := [d1, d2, d3], vars := [g1] }
  | _ => none }
def FnExactMobilityOfWrongFalsely : Prop := fnExactMobilityOfRow.holds Tryz.pinned (OpenSpec.ofChange fnExactMobilityOfWrong)

/-- 'laws.FnExactIsMachine': WHATEVER THE INPUT: true; the input reads as it did. -/
def fnExactIsMachineSpec : ChangeSpec := { name := "fnExactIsMachine", vars := ["loop.example/g00886/impl.directions"], fn := fun _ => fun
  | [d1, d2, d3, g1] => { results := [.lit (.bool true)], args := [d1, d2, d3], vars := [g1] }
  | _ => none }
def fnExactIsMachineRow : OpenClaim := { program := "ytihggbgmdlhlcaagreatdoor", sum := "c54ce465e6db02ad672b17c566d42fc8129f1e9c5f6e904cd41d12c29eb0bb31", func := "loop.example/g00886/laws.FnExactIsMachine", spec := "fnExactIsMachine", unfollowed := true, recurses := true, named := ["loop.example/g00886/impl.directions"], apart := false, laid := [("loop.example/g00886/impl.directions", laid_loop_example_g00886_impl_directions)] }
def FnExactIsMachineSaid : Prop := fnExactIsMachineRow.holds Tryz.pinned (OpenSpec.ofChange fnExactIsMachineSpec)

/-- ITS FALSE NEIGHBOUR: 'it returns false'. Refute it at one input. -/
def fnExactIsMachineWrong : ChangeSpec := { name := "fnExactIsMachine", vars := ["loop.example/g00886/impl.directions"], fn := fun _ => fun
  | [d1, d2, d3, g1] => { results := [.lit (.bool false)], args := [d1, d2, d3], vars := [g1] }
  | _ => none }
def FnExactIsMachineWrongFalsely : Prop := fnExactIsMachineRow.holds Tryz.pinned (OpenSpec.ofChange fnExactIsMachineWrong)

/-- 'laws.FnExactUnitWorth': WHATEVER THE INPUT: true; the input reads as it did. -/
def fnExactUnitWorthSpec : ChangeSpec := { name := "fnExactUnitWorth", vars := ["loop.example/g00886/impl.directions"], fn := fun _ => fun
  | [d1, d2, d3, d4, g1] => { results := [.lit (.bool true)], args := [d1, d2, d3, d4], vars := [g1] }
  | _ => none }
def fnExactUnitWorthRow : OpenClaim := { program := "ytihggbgmdlhlcaagreatdoor", sum := "c54ce465e6db02ad672b17c566d42fc8129f1e9c5f6e904cd41d12c29eb0bb31", func := "loop.example/g00886/laws.FnExactUnitWorth", spec := "fnExactUnitWorth", unfollowed := true, recurses := true, named := ["loop.example/g00886/impl.directions"], apart := false, laid := [("loop.example/g00886/impl.directions", laid_loop_example_g00886_impl_directions)] }
def FnExactUnitWorthSaid : Prop := fnExactUnitWorthRow.holds Tryz.pinned (OpenSpec.ofChange fnExactUnitWorthSpec)

/-- ITS FALSE NEIGHBOUR: 'it returns false'. Refute it at one input. -/
def fnExactUnitWorthWrong : ChangeSpec := { name := "fnExactUnitWorth", vars := ["loop.example/g00886/impl.directions"], fn := fun _ => fun
  | [d1, d2, d3, d4, g1] => { results := [.lit (.bool false)], args := [d1, d2, d3, d4], vars := [g1] }
  | _ => none }
def FnExactUnitWorthWrongFalsely : Prop := fnExactUnitWorthRow.holds Tryz.pinned (OpenSpec.ofChange fnExactUnitWorthWrong)

/-- 'laws.FnExactGoalPoints': WHATEVER THE INPUT: true; the input reads as it did. -/
def fnExactGoalPointsSpec : ChangeSpec := { name := "fnExactGoalPoints", vars := ["loop.example/g00886/impl.directions"], fn := fun _ => fun
  | [d1, d2, d3, g1] => { results := [.lit (.bool true)], args := [d1, d2, d3], vars := [g1] }
  | _ => none }
def fnExactGoalPointsRow : OpenClaim := { program := "ytihggbgmdlhlcaagreatdoor", sum := "c54ce465e6db02ad672b17c566d42fc8129f1e9c5f6e904cd41d12c29eb0bb31", func := "loop.example/g00886/laws.FnExactGoalPoints", spec := "fnExactGoalPoints", unfollowed := true, recurses := true, named := ["loop.example/g00886/impl.directions"], apart := false, laid := [("loop.example/g00886/impl.directions", laid_loop_example_g00886_impl_directions)] }
def FnExactGoalPointsSaid : Prop := fnExactGoalPointsRow.holds Tryz.pinned (OpenSpec.ofChange fnExactGoalPointsSpec)

/-- ITS FALSE NEIGHBOUR: 'it returns false'. Refute it at one input. -/
def fnExactGoalPointsWrong : ChangeSpec := { name := "fnExactGoalPoints", vars := ["loop.example/g00886/impl.directions"], fn := fun _ => fun
  | [d1, d2, d3, g1] => { results := [.lit (.bool false)], args := [d1, d2, d3], vars := [g1] }
  | _ => none }
def FnExactGoalPointsWrongFalsely : Prop := fnExactGoalPointsRow.holds Tryz.pinned (OpenSpec.ofChange fnExactGoalPointsWrong)

/-- 'laws.FnExactSideWorth': WHATEVER THE INPUT: true; the input reads as it did. -/
def fnExactSideWorthSpec : ChangeSpec := { name := "fnExactSideWorth", vars := ["loop.example/g00886/impl.directions"], fn := fun _ => fun
  | [d1, d2, d3, d4, g1] => { results := [.lit (.bool true)], args := [d1, d2, d3, d4], vars := [g1] }
  | _ => none }
def fnExactSideWorthRow : OpenClaim := { program := "ytihggbgmdlhlcaagreatdoor", sum := "c54ce465e6db02ad672b17c566d42fc8129f1e9c5f6e904cd41d12c29eb0bb31", func := "loop.example/g00886/laws.FnExactSideWorth", spec := "fnExactSideWorth", unfollowed := true, recurses := true, named := ["loop.example/g00886/impl.directions"], apart := false, laid := [("loop.example/g00886/impl.directions", laid_loop_example_g00886_impl_directions)] }
def FnExactSideWorthSaid : Prop := fnExactSideWorthRow.holds Tryz.pinned (OpenSpec.ofChange fnExactSideWorthSpec)

/-- ITS FALSE NEIGHBOUR: 'it returns false'. Refute it at one input. -/
def fnExactSideWorthWrong : ChangeSpec := { name := "fnExactSideWorth", vars := ["loop.example/g00886/impl.directions"], fn := fun _ => fun
  | [d1, d2, d3, d4, g1] => { results := [.lit (.bool false)], args := [d1, d2, d3, d4], vars := [g1] }
  | _ => none }
def FnExactSideWorthWrongFalsely : Prop := fnExactSideWorthRow.holds Tryz.pinned (OpenSpec.ofChange fnExactSideWorthWrong)

/-- 'laws.FnExactTotalPoints': WHATEVER THE INPUT: true; the input reads as it did. -/
def fnExactTotalPointsSpec : ChangeSpec := { name := "fnExactTotalPoints", vars := ["loop.example/g00886/impl.directions"], fn := fun _ => fun
  | [d1, d2, d3, g1] => { results := [.lit (.bool true)], args := [d1, d2, d3], vars := [g1] }
  | _ => none }
def fnExactTotalPointsRow : OpenClaim := { program := "ytihggbgmdlhlcaagreatdoor", sum := "c54ce465e6db02ad672b17c566d42fc8129f1e9c5f6e904cd41d12c29eb0bb31", func := "loop.example/g00886/laws.FnExactTotalPoints", spec := "fnExactTotalPoints", unfollowed := true, recurses := true, named := ["loop.example/g00886/impl.directions"], apart := false, laid := [("loop.example/g00886/impl.directions", laid_loop_example_g00886_impl_directions)] }
def FnExactTotalPointsSaid : Prop := fnExactTotalPointsRow.holds Tryz.pinned (OpenSpec.ofChange fnExactTotalPointsSpec)

/-- ITS FALSE NEIGHBOUR: 'it returns false'. Refute it at one input. -/
def fnExactTotalPointsWrong : ChangeSpec := { name := "fnExactTotalPoints", vars := ["loop.example/g00886/impl.directions"], fn := fun _ => fun
  | [d1, d2, d3, g1] => { results := [.lit (.bool false)], args := [d1, d2, d3], vars := [g1] }
  | _ => none }
def FnExactTotalPointsWrongFalsely : Prop := fnExactTotalPointsRow.holds Tryz.pinned (OpenSpec.ofChange fnExactTotalPointsWrong)

/-- 'laws.FnExactPointsNeeded': WHATEVER THE INPUT: true; the input reads as it did. -/
def fnExactPointsNeededSpec : ChangeSpec := { name := "fnExactPointsNeeded", vars := ["loop.example/g00886/impl.directions"], fn := fun _ => fun
  | [d1, d2, d3, d4, g1] => { results := [.lit (.bool true)], args := [d1, d2, d3, d4], vars := [g1] }
  | _ => none }
def fnExactPointsNeededRow : OpenClaim := { program := "ytihggbgmdlhlcaagreatdoor", sum := "c54ce465e6db02ad672b17c566d42fc8129f1e9c5f6e904cd41d12c29eb0bb31", func := "loop.example/g00886/laws.FnExactPointsNeeded", spec := "fnExactPointsNeeded", unfollowed := true, recurses := true, named := ["loop.example/g00886/impl.directions"], apart := false, laid := [("loop.example/g00886/impl.directions", laid_loop_example_g00886_impl_directions)] }
def FnExactPointsNeededSaid : Prop := fnExactPointsNeededRow.holds Tryz.pinned (OpenSpec.ofChange fnExactPointsNeededSpec)

/-- ITS FALSE NEIGHBOUR: 'it returns false'. Refute it at one input. -/
def fnExactPointsNeededWrong : ChangeSpec := { name := "fnExactPointsNeeded", vars := ["loop.example/g00886/impl.directions"], fn := fun _ => fun
  | [d1, d2, d3, d4, g1] => { results := [.lit (.bool false)], args := [d1, d2, d3, d4], vars := [g1] }
  | _ => none }
def FnExactPointsNeededWrongFalsely : Prop := fnExactPointsNeededRow.holds Tryz.pinned (OpenSpec.ofChange fnExactPointsNeededWrong)

/- THE SECOND FORM. 'bulk': how many values and letters a reading holds, each counted each time it is reached (what is shared counts as often as it is met; a slice's spare places count too). A statement '..UptoSaid' is the law's where the arguments, and the package variables that the reading takes, are together of bulk at most 1048576: NARROWER than '..Said'. Prove '..Said' where nothing that the law and all that it calls make is longer than what came in: it says more and counts as full. Else prove '..UptoSaid'. A law counts once. -/
mutual
def uptoBulk {H : Type} : DataW H → Nat
  | .lit (.string bytes) => bytes.length + 1
  | .lit _ => 1
  | .nil => 1
  | .ptr d => uptoBulk d + 1
  | .slice elems spare => uptoBulkAll elems + uptoBulkAll spare + 1
  | .agg parts => uptoBulkAll parts + 1
  | .iface _ d => uptoBulk d + 1
  | .map entries => uptoBulkEntries entries + 1
  | .held _ => 1
def uptoBulkAll {H : Type} : List (DataW H) → Nat
  | [] => 0
  | d :: r => uptoBulk d + uptoBulkAll r
def uptoBulkEntries {H : Type} : List (Lit × DataW H) → Nat
  | [] => 0
  | x :: r => uptoBulkEntry x + uptoBulkEntries r
def uptoBulkEntry {H : Type} : Lit × DataW H → Nat
  | (.string bytes, d) => bytes.length + uptoBulk d + 1
  | (_, d) => uptoBulk d + 1
 end
def uptoSmall : (H : Type) → List (DataW H) → Bool := fun _ ds => decide (uptoBulkAll ds ≤ 1048576)
def OpenSpec.upto (s : _root_.Go.ChangeSpec) : _root_.Go.OpenSpec := { _root_.Go.OpenSpec.ofChange s with cond := some uptoSmall }

/-- 'laws.FnExactCountHidings', WHERE WHAT IT READS IS OF BULK AT MOST 1048576: true; the input reads as it did. -/
def fnExactCountHidingsUptoRow : OpenClaim := { program := "ytihggbgmdlhlcaagreatdoor", sum := "c54ce465e6db02ad672b17c566d42fc8129f1e9c5f6e904cd41d12c29eb0bb31", func := "loop.example/g00886/laws.FnExactCountHidings", spec := "fnExactCountHidings", unfollowed := true, recurses := true, named := ["loop.example/g00886/impl.directions"], apart := false, laid := [("loop.example/g00886/impl.directions", laid_loop_example_g00886_impl_directions)], narrowed := true }
def FnExactCountHidingsUptoSaid : Prop := fnExactCountHidingsUptoRow.holds Tryz.pinned (OpenSpec.upto fnExactCountHidingsSpec)

/-- 'laws.FnExactNearestGoal', WHERE WHAT IT READS IS OF BULK AT MOST 1048576: true; the input reads as it did. -/
def fnExactNearestGoalUptoRow : OpenClaim := { program := "ytihggbgmdlhlcaagreatdoor", sum := "c54ce465e6db02ad672b17c566d42fc8129f1e9c5f6e904cd41d12c29eb0bb31", func := "loop.example/g00886/laws.FnExactNearestGoal", spec := "fnExactNearestGoal", unfollowed := true, recurses := true, named := ["loop.example/g00886/impl.directions"], apart := false, laid := [("loop.example/g00886/impl.directions", laid_loop_example_g00886_impl_directions)], narrowed := true }
def FnExactNearestGoalUptoSaid : Prop := fnExactNearestGoalUptoRow.holds Tryz.pinned (OpenSpec.upto fnExactNearestGoalSpec)

/-- 'laws.FnExactHiddenThreat', WHERE WHAT IT READS IS OF BULK AT MOST 1048576: true; the input reads as it did. -/
def fnExactHiddenThreatUptoRow : OpenClaim := { program := "ytihggbgmdlhlcaagreatdoor", sum := "c54ce465e6db02ad672b17c566d42fc8129f1e9c5f6e904cd41d12c29eb0bb31", func := "loop.example/g00886/laws.FnExactHiddenThreat", spec := "fnExactHiddenThreat", unfollowed := true, recurses := true, named := ["loop.example/g00886/impl.directions"], apart := false, laid := [("loop.example/g00886/impl.directions", laid_loop_example_g00886_impl_directions)], narrowed := true }
def FnExactHiddenThreatUptoSaid : Prop := fnExactHiddenThreatUptoRow.holds Tryz.pinned (OpenSpec.upto fnExactHiddenThreatSpec)

/-- 'laws.FnExactHolderOf', WHERE WHAT IT READS IS OF BULK AT MOST 1048576: true; the input reads as it did. -/
def fnExactHolderOfUptoRow : OpenClaim := { program := "ytihggbgmdlhlcaagreatdoor", sum := "c54ce465e6db02ad672b17c566d42fc8129f1e9c5f6e904cd41d12c29eb0bb31", func := "loop.example/g00886/laws.FnExactHolderOf", spec := "fnExactHolderOf", unfollowed := true, recurses := true, named := ["loop.example/g00886/impl.directions"], apart := false, laid := [("loop.example/g00886/impl.directions", laid_loop_example_g00886_impl_directions)], narrowed := true }
def FnExactHolderOfUptoSaid : Prop := fnExactHolderOfUptoRow.holds Tryz.pinned (OpenSpec.upto fnExactHolderOfSpec)

/-- 'laws.FnExactGroundOf', WHERE WHAT IT READS IS OF BULK AT MOST 1048576: true; the input reads as it did. -/
def fnExactGroundOfUptoRow : OpenClaim := { program := "ytihggbgmdlhlcaagreatdoor", sum := "c54ce465e6db02ad672b17c566d42fc8129f1e9c5f6e904cd41d12c29eb0bb31", func := "loop.example/g00886/laws.FnExactGroundOf", spec := "fnExactGroundOf", unfollowed := true, recurses := true, named := ["loop.example/g00886/impl.directions"], apart := false, laid := [("loop.example/g00886/impl.directions", laid_loop_example_g00886_impl_directions)], narrowed := true }
def FnExactGroundOfUptoSaid : Prop := fnExactGroundOfUptoRow.holds Tryz.pinned (OpenSpec.upto fnExactGroundOfSpec)

/-- 'laws.FnExactMobilityOf', WHERE WHAT IT READS IS OF BULK AT MOST 1048576: true; the input reads as it did. -/
def fnExactMobilityOfUptoRow : OpenClaim := { program := "ytihggbgmdlhlcaagreatdoor", sum := "c54ce465e6db02ad672b17c566d42fc8129f1e9c5f6e904cd41d12c29eb0bb31", func := "loop.example/g00886/laws.FnExactMobilityOf", spec := "fnExactMobilityOf", unfollowed := true, recurses := true, named := ["loop.example/g00886/impl.directions"], apart := false, laid := [("loop.example/g00886/impl.directions", laid_loop_example_g00886_impl_directions)], narrowed := true }
def FnExactMobilityOfUptoSaid : Prop := fnExactMobilityOfUptoRow.holds Tryz.pinned (OpenSpec.upto fnExactMobilityOfSpec)

/-- 'laws.FnExactIsMachine', WHERE WHAT IT READS IS OF BULK AT MOST 1048576: true; the input reads as it did. -/
def fnExactIsMachineUptoRow : OpenClaim := { program := "ytihggbgmdlhlcaagreatdoor", sum := "c54ce465e6db02ad672b17c566d42fc8129f1e9c5f6e904cd41d12c29eb0bb31", func := "loop.example/g00886/laws.FnExactIsMachine", spec := "fnExactIsMachine", unfollowed := true, recurses := true, named := ["loop.example/g00886/impl.directions"], apart := false, laid := [("loop.example/g00886/impl.directions", laid_loop_example_g00886_impl_directions)], narrowed := true }
def FnExactIsMachineUptoSaid : Prop := fnExactIsMachineUptoRow.holds Tryz.pinned (OpenSpec.upto fnExactIsMachineSpec)

/-- 'laws.FnExactUnitWorth', WHERE WHAT IT READS IS OF BULK AT MOST 1048576: true; the input reads as it did. -/
def fnExactUnitWorthUptoRow : OpenClaim := { program := "ytihggbgmdlhlcaagreatdoor", sum := "c54ce465e6db02ad672b17c566d42fc8129f1e9c5f6e904cd41d12c29eb0bb31", func := "loop.example/g00886/laws.FnExactUnitWorth", spec := "fnExactUnitWorth", unfollowed := true, recurses := true, named := ["loop.example/g00886/impl.directions"], apart := false, laid := [("loop.example/g00886/impl.directions", laid_loop_example_g00886_impl_directions)], narrowed := true }
def FnExactUnitWorthUptoSaid : Prop := fnExactUnitWorthUptoRow.holds Tryz.pinned (OpenSpec.upto fnExactUnitWorthSpec)

/-- 'laws.FnExactGoalPoints', WHERE WHAT IT READS IS OF BULK AT MOST 1048576: true; the input reads as it did. -/
def fnExactGoalPointsUptoRow : OpenClaim := { program := "ytihggbgmdlhlcaagreatdoor", sum := "c54ce465e6db02ad672b17c566d42fc8129f1e9c5f6e904cd41d12c29eb0bb31", func := "loop.example/g00886/laws.FnExactGoalPoints", spec := "fnExactGoalPoints", unfollowed := true, recurses := true, named := ["loop.example/g00886/impl.directions"], apart := false, laid := [("loop.example/g00886/impl.directions", laid_loop_example_g00886_impl_directions)], narrowed := true }
def FnExactGoalPointsUptoSaid : Prop := fnExactGoalPointsUptoRow.holds Tryz.pinned (OpenSpec.upto fnExactGoalPointsSpec)

/-- 'laws.FnExactSideWorth', WHERE WHAT IT READS IS OF BULK AT MOST 1048576: true; the input reads as it did. -/
def fnExactSideWorthUptoRow : OpenClaim := { program := "ytihggbgmdlhlcaagreatdoor", sum := "c54ce465e6db02ad672b17c566d42fc8129f1e9c5f6e904cd41d12c29eb0bb31", func := "loop.example/g00886/laws.FnExactSideWorth", spec := "fnExactSideWorth", unfollowed := true, recurses := true, named := ["loop.example/g00886/impl.directions"], apart := false, laid := [("loop.example/g00886/impl.directions", laid_loop_example_g00886_impl_directions)], narrowed := true }
def FnExactSideWorthUptoSaid : Prop := fnExactSideWorthUptoRow.holds Tryz.pinned (OpenSpec.upto fnExactSideWorthSpec)

/-- 'laws.FnExactTotalPoints', WHERE WHAT IT READS IS OF BULK AT MOST 1048576: true; the input reads as it did. -/
def fnExactTotalPointsUptoRow : OpenClaim := { program := "ytihggbgmdlhlcaagreatdoor", sum := "c54ce465e6db02ad672b17c566d42fc8129f1e9c5f6e904cd41d12c29eb0bb31", func := "loop.example/g00886/laws.FnExactTotalPoints", spec := "fnExactTotalPoints", unfollowed := true, recurses := true, named := ["loop.example/g00886/impl.directions"], apart := false, laid := [("loop.example/g00886/impl.directions", laid_loop_example_g00886_impl_directions)], narrowed := true }
def FnExactTotalPointsUptoSaid : Prop := fnExactTotalPointsUptoRow.holds Tryz.pinned (OpenSpec.upto fnExactTotalPointsSpec)

/-- 'laws.FnExactPointsNeeded', WHERE WHAT IT READS IS OF BULK AT MOST 1048576: true; the input reads as it did. -/
def fnExactPointsNeededUptoRow : OpenClaim := { program := "ytihggbgmdlhlcaagreatdoor", sum := "c54ce465e6db02ad672b17c566d42fc8129f1e9c5f6e904cd41d12c29eb0bb31", func := "loop.example/g00886/laws.FnExactPointsNeeded", spec := "fnExactPointsNeeded", unfollowed := true, recurses := true, named := ["loop.example/g00886/impl.directions"], apart := false, laid := [("loop.example/g00886/impl.directions", laid_loop_example_g00886_impl_directions)], narrowed := true }
def FnExactPointsNeededUptoSaid : Prop := fnExactPointsNeededUptoRow.holds Tryz.pinned (OpenSpec.upto fnExactPointsNeededSpec)

end Rows
end Go.Proofs.YtihggbgmdlhlcaaGreatDoor
