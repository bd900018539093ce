/-
  NARROWER THAN 'FOR EVERY INPUT', by the rows' own cells (each row's printed sentence says how): FnExactFrontUnits: laid · FnExactUnseenHexes: laid · FnExactNewsOf: laid · FnExactMayHide: laid · FnExactFreeGoals: laid · FnExactReactionsLeft: laid · FnExactSpottersOf: laid · FnExactSeenHexes: laid · FnExactHiddenUnits: laid.
  DERIVED. THE GIVEN ROWS OF THIS SEAT. 9 by the template 'for every input the law returns true; each argument reads behind the call as it read before'; 0 by the template 'total and deterministic' (their statements: YtociagbpecpcnaaGreatDoorTotals.lean).
  GIVEN WITH THE SEED: the statements are not yours to turn. If you find one false, say at which input.
  Laid BY PROGRAM, IN A SANDBOX (cutbox-rows.mjs): the forced cells as the released guide's own fill.sh prints them over the translation 8093b8976782cc74… (all of the seat's roots in one cut). By AI agents, Wed Nov 11 2026. No macro, syntax, notation, axiom, sorry.
-/
import Derived.Test.YtociagbpecpcnaaGreatDoorChecked
import GoSem.Claim
import GoSem.ClaimJoined
import GoSem.ClaimMapViews
import Derived.JoinedTies
import Derived.KernelRfl
namespace Go.Proofs.YtociagbpecpcnaaGreatDoor
/- THE CELL 'sum', in the pinned program and in every row, IS THE sha256 OF THE DUMP (.gsa) THAT YtociagbpecpcnaaGreatDoorProg.lean LOADS. Nothing in Lean hashes anything: it is a label: what it is worth is what the hold of that sum in a sandbox is worth. -/
noncomputable def Tryz.pinned : Pinned := { name := "ytociagbpecpcnaagreatdoor", sum := "8093b8976782cc7420f114b0715c57dbef28065f341c0e325edd628ed97543cf", checked := Tryz.checked }
namespace Rows
def none {H : Type} : Left H := { results := [], args := [] }

/- WHAT THE LISTED PACKAGE-LEVEL VARIABLES READ AS WHEN THE CALL BEGINS. Each datum BY PROGRAM (the guide's laid-datum.mjs) off the statement by which the dump's own 'gosem.cut.vars' lays the variable. In a bare row this is a premise. The card (YtociagbpecpcnaaGreatDoorCards.lean) ties it to the program's text. -/
def laid_loop_example_g00886_impl_directions {H : Type} : DataW H := .agg [.agg [.lit (.int .i64 1), .lit (.int .i64 0)], .agg [.lit (.int .i64 1), .lit (.int .i64 (-1))], .agg [.lit (.int .i64 0), .lit (.int .i64 (-1))], .agg [.lit (.int .i64 (-1)), .lit (.int .i64 0)], .agg [.lit (.int .i64 (-1)), .lit (.int .i64 1)], .agg [.lit (.int .i64 0), .lit (.int .i64 1)]]

/-- 'laws.FnExactFrontUnits': WHATEVER THE INPUT: true; the input reads as it did. -/
def fnExactFrontUnitsSpec : ChangeSpec := { name := "fnExactFrontUnits", vars := ["loop.example/g00886/impl.directions"], fn := fun _ => fun
  | [d1, d2, d3, g1] => { results := [.lit (.bool true)], args := [d1, d2, d3], vars := [g1] }
  | _ => none }
def fnExactFrontUnitsRow : OpenClaim := { program := "ytociagbpecpcnaagreatdoor", sum := "8093b8976782cc7420f114b0715c57dbef28065f341c0e325edd628ed97543cf", func := "loop.example/g00886/laws.FnExactFrontUnits", spec := "fnExactFrontUnits", unfollowed := true, recurses := true, named := ["loop.example/g00886/impl.directions"], apart := false, laid := [("loop.example/g00886/impl.directions", laid_loop_example_g00886_impl_directions)] }
def FnExactFrontUnitsSaid : Prop := fnExactFrontUnitsRow.holds Tryz.pinned (OpenSpec.ofChange fnExactFrontUnitsSpec)

/-- ITS FALSE NEIGHBOUR: 'it returns false'. Refute it at one input. -/
def fnExactFrontUnitsWrong : ChangeSpec := { name := "fnExactFrontUnits", vars := ["loop.example/g00886/impl.directions"], fn := fun _ => fun
  | [d1, d2, d3, g1] => { results := [.lit (.bool false)], args := [d1, d2, d3], vars := [g1] }
  | _ => none }
def FnExactFrontUnitsWrongFalsely : Prop := fnExactFrontUnitsRow.holds Tryz.pinned (OpenSpec.ofChange fnExactFrontUnitsWrong)

/-- 'laws.FnExactUnseenHexes': WHATEVER THE INPUT: true; the input reads as it did. -/
def fnExactUnseenHexesSpec : ChangeSpec := { name := "fnExactUnseenHexes", vars := ["loop.example/g00886/impl.directions"], fn := fun _ => fun
  | [d1, d2, g1] => { results := [.lit (.bool true)], args := [d1, d2], vars := [g1] }
  | _ => none }
def fnExactUnseenHexesRow : OpenClaim := { program := "ytociagbpecpcnaagreatdoor", sum := "8093b8976782cc7420f114b0715c57dbef28065f341c0e325edd628ed97543cf", func := "loop.example/g00886/laws.FnExactUnseenHexes", spec := "fnExactUnseenHexes", unfollowed := true, recurses := true, named := ["loop.example/g00886/impl.directions"], apart := false, laid := [("loop.example/g00886/impl.directions", laid_loop_example_g00886_impl_directions)] }
def FnExactUnseenHexesSaid : Prop := fnExactUnseenHexesRow.holds Tryz.pinned (OpenSpec.ofChange fnExactUnseenHexesSpec)

/-- ITS FALSE NEIGHBOUR: 'it returns false'. Refute it at one input. -/
def fnExactUnseenHexesWrong : ChangeSpec := { name := "fnExactUnseenHexes", vars := ["loop.example/g00886/impl.directions"], fn := fun _ => fun
  | [d1, d2, g1] => { results := [.lit (.bool false)], args := [d1, d2], vars := [g1] }
  | _ => none }
def FnExactUnseenHexesWrongFalsely : Prop := fnExactUnseenHexesRow.holds Tryz.pinned (OpenSpec.ofChange fnExactUnseenHexesWrong)

/-- 'laws.FnExactNewsOf': WHATEVER THE INPUT: true; the input reads as it did. -/
def fnExactNewsOfSpec : ChangeSpec := { name := "fnExactNewsOf", vars := ["loop.example/g00886/impl.directions"], fn := fun _ => fun
  | [d1, d2, d3, g1] => { results := [.lit (.bool true)], args := [d1, d2, d3], vars := [g1] }
  | _ => none }
def fnExactNewsOfRow : OpenClaim := { program := "ytociagbpecpcnaagreatdoor", sum := "8093b8976782cc7420f114b0715c57dbef28065f341c0e325edd628ed97543cf", func := "loop.example/g00886/laws.FnExactNewsOf", spec := "fnExactNewsOf", unfollowed := true, recurses := true, named := ["loop.example/g00886/impl.directions"], apart := false, laid := [("loop.example/g00886/impl.directions", laid_loop_example_g00886_impl_directions)] }
def FnExactNewsOfSaid : Prop := fnExactNewsOfRow.holds Tryz.pinned (OpenSpec.ofChange fnExactNewsOfSpec)

/-- ITS FALSE NEIGHBOUR: 'it returns false'. Refute it at one input. -/
def fnExactNewsOfWrong : ChangeSpec := { name := "fnExactNewsOf", vars := ["loop.example/g00886/impl.directions"], fn := fun _ => fun
  | [d1, d2, d3, g1] => { results := [.lit (.bool false)], args := [d1, d2, d3], vars := [g1] }
  | _ => none }
def FnExactNewsOfWrongFalsely : Prop := fnExactNewsOfRow.holds Tryz.pinned (OpenSpec.ofChange fnExactNewsOfWrong)

/-- 'laws.FnExactMayHide': WHATEVER THE INPUT: true; the input reads as it did. -/
def fnExactMayHideSpec : ChangeSpec := { name := "fnExactMayHide", vars := ["loop.example/g00886/impl.directions"], fn := fun _ => fun
  | [d1, d2, d3, g1] => { results := [.lit (.bool true)], args := [d1, d2, d3], vars := [g1] }
  | _ => none }
def fnExactMayHideRow : OpenClaim := { program := "ytociagbpecpcnaagreatdoor", sum := "8093b8976782cc7420f114b0715c57dbef28065f341c0e325edd628ed97543cf", func := "loop.example/g00886/laws.FnExactMayHide", spec := "fnExactMayHide", unfollowed := true, recurses := true, named := ["loop.example/g00886/impl.directions"], apart := false, laid := [("loop.example/g00886/impl.directions", laid_loop_example_g00886_impl_directions)] }
def FnExactMayHideSaid : Prop := fnExactMayHideRow.holds Tryz.pinned (OpenSpec.ofChange fnExactMayHideSpec)

/-- ITS FALSE NEIGHBOUR: 'it returns false'. Refute it at one input. -/
def fnExactMayHideWrong : ChangeSpec := { name := "fnExactMayHide", vars := ["loop.example/g00886/impl.directions"], fn := fun _ => fun
  | [d1, d2, d3, g1] => { results := [.lit (.bool false)], args := [d1, d2, d3], vars := [g1] }
  | _ => none }
def FnExactMayHideWrongFalsely : Prop := fnExactMayHideRow.holds Tryz.pinned (OpenSpec.ofChange fnExactMayHideWrong)

/-- 'laws.FnExactFreeGoals': WHATEVER THE INPUT: true; the input reads as it did. -/
def fnExactFreeGoalsSpec : ChangeSpec := { name := "fnExactFreeGoals", vars := ["loop.example/g00886/impl.directions"], fn := fun _ => fun
  | [d1, d2, d3, g1] => { results := [.lit (.bool true)], args := [d1, d2, d3], vars := [g1] }
  | _ => none }
def fnExactFreeGoalsRow : OpenClaim := { program := "ytociagbpecpcnaagreatdoor", sum := "8093b8976782cc7420f114b0715c57dbef28065f341c0e325edd628ed97543cf", func := "loop.example/g00886/laws.FnExactFreeGoals", spec := "fnExactFreeGoals", unfollowed := true, recurses := true, named := ["loop.example/g00886/impl.directions"], apart := false, laid := [("loop.example/g00886/impl.directions", laid_loop_example_g00886_impl_directions)] }
def FnExactFreeGoalsSaid : Prop := fnExactFreeGoalsRow.holds Tryz.pinned (OpenSpec.ofChange fnExactFreeGoalsSpec)

/-- ITS FALSE NEIGHBOUR: 'it returns false'. Refute it at one input. -/
def fnExactFreeGoalsWrong : ChangeSpec := { name := "fnExactFreeGoals", vars := ["loop.example/g00886/impl.directions"], fn := fun _ => fun
  | [d1, d2, d3, g1] => { results := [.lit (.bool false)], args := [d1, d2, d3], vars := [g1] }
  | _ => none }
def FnExactFreeGoalsWrongFalsely : Prop := fnExactFreeGoalsRow.holds Tryz.pinned (OpenSpec.ofChange fnExactFreeGoalsWrong)

/-- 'laws.FnExactReactionsLeft': WHATEVER THE INPUT: true; the input reads as it did. -/
def fnExactReactionsLeftSpec : ChangeSpec := { name := "fnExactReactionsLeft", vars := ["loop.example/g00886/impl.directions"], fn := fun _ => fun
  | [d1, d2, d3, g1] => { results := [.lit (.bool true)], args := [d1, d2, d3], vars := [g1] }
  | _ => none }
def fnExactReactionsLeftRow : OpenClaim := { program := "ytociagbpecpcnaagreatdoor", sum := "8093b8976782cc7420f114b0715c57dbef28065f341c0e325edd628ed97543cf", func := "loop.example/g00886/laws.FnExactReactionsLeft", spec := "fnExactReactionsLeft", unfollowed := true, recurses := true, named := ["loop.example/g00886/impl.directions"], apart := false, laid := [("loop.example/g00886/impl.directions", laid_loop_example_g00886_impl_directions)] }
def FnExactReactionsLeftSaid : Prop := fnExactReactionsLeftRow.holds Tryz.pinned (OpenSpec.ofChange fnExactReactionsLeftSpec)

/-- ITS FALSE NEIGHBOUR: 'it returns false'. Refute it at one input. -/
def fnExactReactionsLeftWrong : ChangeSpec := { name := "fnExactReactionsLeft", vars := ["loop.example/g00886/impl.directions"], fn := fun _ => fun
  | [d1, d2, d3, g1] => { results := [.lit (.bool false)], args := [d1, d2, d3], vars := [g1] }
  | _ => none }
def FnExactReactionsLeftWrongFalsely : Prop := fnExactReactionsLeftRow.holds Tryz.pinned (OpenSpec.ofChange fnExactReactionsLeftWrong)

/-- 'laws.FnExactSpottersOf': WHATEVER THE INPUT: true; the input reads as it did. -/
def fnExactSpottersOfSpec : ChangeSpec := { name := "fnExactSpottersOf", vars := ["loop.example/g00886/impl.directions"], fn := fun _ => fun
  | [d1, d2, d3, d4, g1] => { results := [.lit (.bool true)], args := [d1, d2, d3, d4], vars := [g1] }
  | _ => none }
def fnExactSpottersOfRow : OpenClaim := { program := "ytociagbpecpcnaagreatdoor", sum := "8093b8976782cc7420f114b0715c57dbef28065f341c0e325edd628ed97543cf", func := "loop.example/g00886/laws.FnExactSpottersOf", spec := "fnExactSpottersOf", unfollowed := true, recurses := true, named := ["loop.example/g00886/impl.directions"], apart := false, laid := [("loop.example/g00886/impl.directions", laid_loop_example_g00886_impl_directions)] }
def FnExactSpottersOfSaid : Prop := fnExactSpottersOfRow.holds Tryz.pinned (OpenSpec.ofChange fnExactSpottersOfSpec)

/-- ITS FALSE NEIGHBOUR: 'it returns false'. Refute it at one input. -/
def fnExactSpottersOfWrong : ChangeSpec := { name := "fnExactSpottersOf", vars := ["loop.example/g00886/impl.directions"], fn := fun _ => fun
  | [d1, d2, d3, d4, g1] => { results := [.lit (.bool false)], args := [d1, d2, d3, d4], vars := [g1] }
  | _ => none }
def FnExactSpottersOfWrongFalsely : Prop := fnExactSpottersOfRow.holds Tryz.pinned (OpenSpec.ofChange fnExactSpottersOfWrong)

/-- 'laws.FnExactSeenHexes': WHATEVER THE INPUT: true; the input reads as it did. -/
def fnExactSeenHexesSpec : ChangeSpec := { name := "fnExactSeenHexes", vars := ["loop.example/g00886/impl.directions"], fn := fun _ => fun
  | [d1, d2, d3, g1] => { results := [.lit (.bool true)], args := [d1, d2, d3], vars := [g1] }
  | _ => none }
def fnExactSeenHexesRow : OpenClaim := { program := "ytociagbpecpcnaagreatdoor", sum := "8093b8976782cc7420f114b0715c57dbef28065f341c0e325edd628ed97543cf", func := "loop.example/g00886/laws.FnExactSeenHexes", spec := "fnExactSeenHexes", unfollowed := true, recurses := true, named := ["loop.example/g00886/impl.directions"], apart := false, laid := [("loop.example/g00886/impl.directions", laid_loop_example_g00886_impl_directions)] }
def FnExactSeenHexesSaid : Prop := fnExactSeenHexesRow.holds Tryz.pinned (OpenSpec.ofChange fnExactSeenHexesSpec)

/-- ITS FALSE NEIGHBOUR: 'it returns false'. Refute it at one input. -/
def fnExactSeenHexesWrong : ChangeSpec := { name := "fnExactSeenHexes", vars := ["loop.example/g00886/impl.directions"], fn := fun _ => fun
  | [d1, d2, d3, g1] => { results := [.lit (.bool false)], args := [d1, d2, d3], vars := [g1] }
  | _ => none }
def FnExactSeenHexesWrongFalsely : Prop := fnExactSeenHexesRow.holds Tryz.pinned (OpenSpec.ofChange fnExactSeenHexesWrong)

/-- 'laws.FnExactHiddenUnits': WHATEVER THE INPUT: true; the input reads as it did. -/
def fnExactHiddenUnitsSpec : ChangeSpec := { name := "fnExactHiddenUnits", vars := ["loop.example/g00886/impl.directions"], fn := fun _ => fun
  | [d1, d2, d3, g1] => { results := [.lit (.bool true)], args := [d1, d2, d3], vars := [g1] }
  | _ => none }
def fnExactHiddenUnitsRow : OpenClaim := { program := "ytociagbpecpcnaagreatdoor", sum := "8093b8976782cc7420f114b0715c57dbef28065f341c0e325edd628ed97543cf", func := "loop.example/g00886/laws.FnExactHiddenUnits", spec := "fnExactHiddenUnits", unfollowed := true, recurses := true, named := ["loop.example/g00886/impl.directions"], apart := false, laid := [("loop.example/g00886/impl.directions", laid_loop_example_g00886_impl_directions)] }
def FnExactHiddenUnitsSaid : Prop := fnExactHiddenUnitsRow.holds Tryz.pinned (OpenSpec.ofChange fnExactHiddenUnitsSpec)

/-- ITS FALSE NEIGHBOUR: 'it returns false'. Refute it at one input. -/
def fnExactHiddenUnitsWrong : ChangeSpec := { name := "fnExactHiddenUnits", vars := ["loop.example/g00886/impl.directions"], fn := fun _ => fun
  | [d1, d2, d3, g1] => { results := [.lit (.bool false)], args := [d1, d2, d3], vars := [g1] }
  | _ => none }
def FnExactHiddenUnitsWrongFalsely : Prop := fnExactHiddenUnitsRow.holds Tryz.pinned (OpenSpec.ofChange fnExactHiddenUnitsWrong)

/- THE SECOND FORM. 'bulk': how many values and letters a reading holds, each counted each time it is reached (what is shared counts as often as it is met; a slice's spare places count too). A statement '..UptoSaid' is the law's where the arguments, and the package variables that the reading takes, are together of bulk at most 1048576: NARROWER than '..Said'. Prove '..Said' where nothing that the law and all that it calls make is longer than what came in: it says more and counts as full. Else prove '..UptoSaid'. A law counts once. -/
mutual
def uptoBulk {H : Type} : DataW H → Nat
  | .lit (.string bytes) => bytes.length + 1
  | .lit _ => 1
  | .nil => 1
  | .ptr d => uptoBulk d + 1
  | .slice elems spare => uptoBulkAll elems + uptoBulkAll spare + 1
  | .agg parts => uptoBulkAll parts + 1
  | .iface _ d => uptoBulk d + 1
  | .map entries => uptoBulkEntries entries + 1
  | .held _ => 1
def uptoBulkAll {H : Type} : List (DataW H) → Nat
  | [] => 0
  | d :: r => uptoBulk d + uptoBulkAll r
def uptoBulkEntries {H : Type} : List (Lit × DataW H) → Nat
  | [] => 0
  | x :: r => uptoBulkEntry x + uptoBulkEntries r
def uptoBulkEntry {H : Type} : Lit × DataW H → Nat
  | (.string bytes, d) => bytes.length + uptoBulk d + 1
  | (_, d) => uptoBulk d + 1
 end
def uptoSmall : (H : Type) → List (DataW H) → Bool := fun _ ds => decide (uptoBulkAll ds ≤ 1048576)
def OpenSpec.upto (s : _root_.Go.ChangeSpec) : _root_.Go.OpenSpec := { _root_.Go.OpenSpec.ofChange s with cond := some uptoSmall }

/-- 'laws.FnExactFrontUnits', WHERE WHAT IT READS IS OF BULK AT MOST 1048576: true; the input reads as it did. -/
def fnExactFrontUnitsUptoRow : OpenClaim := { program := "ytociagbpecpcnaagreatdoor", sum := "8093b8976782cc7420f114b0715c57dbef28065f341c0e325edd628ed97543cf", func := "loop.example/g00886/laws.FnExactFrontUnits", spec := "fnExactFrontUnits", unfollowed := true, recurses := true, named := ["loop.example/g00886/impl.directions"], apart := false, laid := [("loop.example/g00886/impl.directions", laid_loop_example_g00886_impl_directions)], narrowed := true }
def FnExactFrontUnitsUptoSaid : Prop := fnExactFrontUnitsUptoRow.holds Tryz.pinned (OpenSpec.upto fnExactFrontUnitsSpec)

/-- 'laws.FnExactUnseenHexes', WHERE WHAT IT READS IS OF BULK AT MOST 1048576: true; the input reads as it did. -/
def fnExactUnseenHexesUptoRow : OpenClaim := { program := "ytociagbpecpcnaagreatdoor", sum := "8093b8976782cc7420f114b0715c57dbef28065f341c0e325edd628ed97543cf", func := "loop.example/g00886/laws.FnExactUnseenHexes", spec := "fnExactUnseenHexes", unfollowed := true, recurses := true, named := ["loop.example/g00886/impl.directions"], apart := false, laid := [("loop.example/g00886/impl.directions", laid_loop_example_g00886_impl_directions)], narrowed := true }
def FnExactUnseenHexesUptoSaid : Prop := fnExactUnseenHexesUptoRow.holds Tryz.pinned (OpenSpec.upto fnExactUnseenHexesSpec)

/-- 'laws.FnExactNewsOf', WHERE WHAT IT READS IS OF BULK AT MOST 1048576: true; the input reads as it did. -/
def fnExactNewsOfUptoRow : OpenClaim := { program := "ytociagbpecpcnaagreatdoor", sum := "8093b8976782cc7420f114b0715c57dbef28065f341c0e325edd628ed97543cf", func := "loop.example/g00886/laws.FnExactNewsOf", spec := "fnExactNewsOf", unfollowed := true, recurses := true, named := ["loop.example/g00886/impl.directions"], apart := false, laid := [("loop.example/g00886/impl.directions", laid_loop_example_g00886_impl_directions)], narrowed := true }
def FnExactNewsOfUptoSaid : Prop := fnExactNewsOfUptoRow.holds Tryz.pinned (OpenSpec.upto fnExactNewsOfSpec)

/-- 'laws.FnExactMayHide', WHERE WHAT IT READS IS OF BULK AT MOST 1048576: true; the input reads as it did. -/
def fnExactMayHideUptoRow : OpenClaim := { program := "ytociagbpecpcnaagreatdoor", sum := "8093b8976782cc7420f114b0715c57dbef28065f341c0e325edd628ed97543cf", func := "loop.example/g00886/laws.FnExactMayHide", spec := "fnExactMayHide", unfollowed := true, recurses := true, named := ["loop.example/g00886/impl.directions"], apart := false, laid := [("loop.example/g00886/impl.directions", laid_loop_example_g00886_impl_directions)], narrowed := true }
def FnExactMayHideUptoSaid : Prop := fnExactMayHideUptoRow.holds Tryz.pinned (OpenSpec.upto fnExactMayHideSpec)

/-- 'laws.FnExactFreeGoals', WHERE WHAT IT READS IS OF BULK AT MOST 1048576: true; the input reads as it did. -/
def fnExactFreeGoalsUptoRow : OpenClaim := { program := "ytociagbpecpcnaagreatdoor", sum := "8093b8976782cc7420f114b0715c57dbef28065f341c0e325edd628ed97543cf", func := "loop.example/g00886/laws.FnExactFreeGoals", spec := "fnExactFreeGoals", unfollowed := true, recurses := true, named := ["loop.example/g00886/impl.directions"], apart := false, laid := [("loop.example/g00886/impl.directions", laid_loop_example_g00886_impl_directions)], narrowed := true }
def FnExactFreeGoalsUptoSaid : Prop := fnExactFreeGoalsUptoRow.holds Tryz.pinned (OpenSpec.upto fnExactFreeGoalsSpec)

/-- 'laws.FnExactReactionsLeft', WHERE WHAT IT READS IS OF BULK AT MOST 1048576: true; the input reads as it did. -/
def fnExactReactionsLeftUptoRow : OpenClaim := { program := "ytociagbpecpcnaagreatdoor", sum := "8093b8976782cc7420f114b0715c57dbef28065f341c0e325edd628ed97543cf", func := "loop.example/g00886/laws.FnExactReactionsLeft", spec := "fnExactReactionsLeft", unfollowed := true, recurses := true, named := ["loop.example/g00886/impl.directions"], apart := false, laid := [("loop.example/g00886/impl.directions", laid_loop_example_g00886_impl_directions)], narrowed := true }
def FnExactReactionsLeftUptoSaid : Prop := fnExactReactionsLeftUptoRow.holds Tryz.pinned (OpenSpec.upto fnExactReactionsLeftSpec)

/-- 'laws.FnExactSpottersOf', WHERE WHAT IT READS IS OF BULK AT MOST 1048576: true; the input reads as it did. -/
def fnExactSpottersOfUptoRow : OpenClaim := { program := "ytociagbpecpcnaagreatdoor", sum := "8093b8976782cc7420f114b0715c57dbef28065f341c0e325edd628ed97543cf", func := "loop.example/g00886/laws.FnExactSpottersOf", spec := "fnExactSpottersOf", unfollowed := true, recurses := true, named := ["loop.example/g00886/impl.directions"], apart := false, laid := [("loop.example/g00886/impl.directions", laid_loop_example_g00886_impl_directions)], narrowed := true }
def FnExactSpottersOfUptoSaid : Prop := fnExactSpottersOfUptoRow.holds Tryz.pinned (OpenSpec.upto fnExactSpottersOfSpec)

/-- 'laws.FnExactSeenHexes', WHERE WHAT IT READS IS OF BULK AT MOST 1048576: true; the input reads as it did. -/
def fnExactSeenHexesUptoRow : OpenClaim := { program := "ytociagbpecpcnaagreatdoor", sum := "8093b8976782cc7420f114b0715c57dbef28065f341c0e325edd628ed97543cf", func := "loop.example/g00886/laws.FnExactSeenHexes", spec := "fnExactSeenHexes", unfollowed := true, recurses := true, named := ["loop.example/g00886/impl.directions"], apart := false, laid := [("loop.example/g00886/impl.directions", laid_loop_example_g00886_impl_directions)], narrowed := true }
def FnExactSeenHexesUptoSaid : Prop := fnExactSeenHexesUptoRow.holds Tryz.pinned (OpenSpec.upto fnExactSeenHexesSpec)

/-- 'laws.FnExactHiddenUnits', WHERE WHAT IT READS IS OF BULK AT MOST 1048576: true; the input reads as it did. -/
def fnExactHiddenUnitsUptoRow : OpenClaim := { program := "ytociagbpecpcnaagreatdoor", sum := "8093b8976782cc7420f114b0715c57dbef28065f341c0e325edd628ed97543cf", func := "loop.example/g00886/laws.FnExactHiddenUnits", spec := "fnExactHiddenUnits", unfollowed := true, recurses := true, named := ["loop.example/g00886/impl.directions"], apart := false, laid := [("loop.example/g00886/impl.directions", laid_loop_example_g00886_impl_directions)], narrowed := true }
def FnExactHiddenUnitsUptoSaid : Prop := fnExactHiddenUnitsUptoRow.holds Tryz.pinned (OpenSpec.upto fnExactHiddenUnitsSpec)

end Rows
end Go.Proofs.YtociagbpecpcnaaGreatDoor
