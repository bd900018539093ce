/-
  NARROWER THAN 'FOR EVERY INPUT', by the rows' own cells (each row's printed sentence says how): FnExactIsMemory: laid · FnExactAreConditions: laid · FnExactMostPoints: laid · FnExactStaleHexes: laid · FnExactSuspectedHexes: laid · FnExactNewMemory: laid · FnExactFullSteps: laid · FnExactWorthIfSupplied: laid · FnExactIsView: laid · FnExactFireTarget: laid · FnExactAreReactions: laid.
  DERIVED. THE GIVEN ROWS OF THIS SEAT. 11 by the template 'for every input the law returns true; each argument reads behind the call as it read before'; 0 by the template 'total and deterministic' (their statements: YtfpafaampjgckaaDoorTotals.lean).
  GIVEN WITH THE SEED: the statements are not yours to turn. If you find one false, say at which input.
  Laid BY PROGRAM, IN A SANDBOX (cutbox-rows.mjs): the forced cells as the released guide's own fill.sh prints them over the translation faafd118d638184d… (all of the seat's roots in one cut). By AI agents, Wed Nov 11 2026. No macro, syntax, notation, axiom, sorry.
-/
import Derived.Test.YtfpafaampjgckaaDoorChecked
import GoSem.Claim
import GoSem.ClaimJoined
import GoSem.ClaimMapViews
import Derived.JoinedTies
import Derived.KernelRfl
namespace Go.Proofs.YtfpafaampjgckaaDoor
/- THE CELL 'sum', in the pinned program and in every row, IS THE sha256 OF THE DUMP (.gsa) THAT YtfpafaampjgckaaDoorProg.lean LOADS. Nothing in Lean hashes anything: it is a label: what it is worth is what the hold of that sum in a sandbox is worth. -/
noncomputable def Tryd.pinned : Pinned := { name := "ytfpafaampjgckaadoor", sum := "faafd118d638184df600036fd2e8ab0847eac0dab00ac36b766c8cfbd38a96c6", checked := Tryd.checked }
namespace Rows
def none {H : Type} : Left H := { results := [], args := [] }

/- WHAT THE LISTED PACKAGE-LEVEL VARIABLES READ AS WHEN THE CALL BEGINS. Each datum BY PROGRAM (the guide's laid-datum.mjs) off the statement by which the dump's own 'gosem.cut.vars' lays the variable. In a bare row this is a premise. The card (YtfpafaampjgckaaDoorCards.lean) ties it to the program's text. -/
def laid_loop_example_g00886_impl_directions {H : Type} : DataW H := .agg [.agg [.lit (.int .i64 1), .lit (.int .i64 0)], .agg [.lit (.int .i64 1), .lit (.int .i64 (-1))], .agg [.lit (.int .i64 0), .lit (.int .i64 (-1))], .agg [.lit (.int .i64 (-1)), .lit (.int .i64 0)], .agg [.lit (.int .i64 (-1)), .lit (.int .i64 1)], .agg [.lit (.int .i64 0), .lit (.int .i64 1)]]

/-- 'laws.FnExactIsMemory': WHATEVER THE INPUT: true; the input reads as it did. -/
def fnExactIsMemorySpec : ChangeSpec := { name := "fnExactIsMemory", vars := ["loop.example/g00886/impl.directions"], fn := fun _ => fun
  | [d1, d2, g1] => { results := [.lit (.bool true)], args := [d1, d2], vars := [g1] }
  | _ => none }
def fnExactIsMemoryRow : OpenClaim := { program := "ytfpafaampjgckaadoor", sum := "faafd118d638184df600036fd2e8ab0847eac0dab00ac36b766c8cfbd38a96c6", func := "loop.example/g00886/laws.FnExactIsMemory", spec := "fnExactIsMemory", unfollowed := true, recurses := true, named := ["loop.example/g00886/impl.directions"], apart := false, laid := [("loop.example/g00886/impl.directions", laid_loop_example_g00886_impl_directions)] }
def FnExactIsMemorySaid : Prop := fnExactIsMemoryRow.holds Tryd.pinned (OpenSpec.ofChange fnExactIsMemorySpec)

/-- ITS FALSE NEIGHBOUR: 'it returns false'. Refute it at one input. -/
def fnExactIsMemoryWrong : ChangeSpec := { name := "fnExactIsMemory", vars := ["loop.example/g00886/impl.directions"], fn := fun _ => fun
  | [d1, d2, g1] => { results := [.lit (.bool false)], args := [d1, d2], vars := [g1] }
  | _ => none }
def FnExactIsMemoryWrongFalsely : Prop := fnExactIsMemoryRow.holds Tryd.pinned (OpenSpec.ofChange fnExactIsMemoryWrong)

/-- 'laws.FnExactAreConditions': WHATEVER THE INPUT: true; the input reads as it did. -/
def fnExactAreConditionsSpec : ChangeSpec := { name := "fnExactAreConditions", vars := ["loop.example/g00886/impl.directions"], fn := fun _ => fun
  | [d1, d2, g1] => { results := [.lit (.bool true)], args := [d1, d2], vars := [g1] }
  | _ => none }
def fnExactAreConditionsRow : OpenClaim := { program := "ytfpafaampjgckaadoor", sum := "faafd118d638184df600036fd2e8ab0847eac0dab00ac36b766c8cfbd38a96c6", func := "loop.example/g00886/laws.FnExactAreConditions", spec := "fnExactAreConditions", unfollowed := true, recurses := true, named := ["loop.example/g00886/impl.directions"], apart := false, laid := [("loop.example/g00886/impl.directions", laid_loop_example_g00886_impl_directions)] }
def FnExactAreConditionsSaid : Prop := fnExactAreConditionsRow.holds Tryd.pinned (OpenSpec.ofChange fnExactAreConditionsSpec)

/-- ITS FALSE NEIGHBOUR: 'it returns false'. Refute it at one input. -/
def fnExactAreConditionsWrong : ChangeSpec := { name := "fnExactAreConditions", vars := ["loop.example/g00886/impl.directions"], fn := fun _ => fun
  | [d1, d2, g1] => { results := [.lit (.bool false)], args := [d1, d2], vars := [g1] }
  | _ => none }
def FnExactAreConditionsWrongFalsely : Prop := fnExactAreConditionsRow.holds Tryd.pinned (OpenSpec.ofChange fnExactAreConditionsWrong)

/-- 'laws.FnExactMostPoints': WHATEVER THE INPUT: true; the input reads as it did. -/
def fnExactMostPointsSpec : ChangeSpec := { name := "fnExactMostPoints", vars := ["loop.example/g00886/impl.directions"], fn := fun _ => fun
  | [d1, d2, g1] => { results := [.lit (.bool true)], args := [d1, d2], vars := [g1] }
  | _ => none }
def fnExactMostPointsRow : OpenClaim := { program := "ytfpafaampjgckaadoor", sum := "faafd118d638184df600036fd2e8ab0847eac0dab00ac36b766c8cfbd38a96c6", func := "loop.example/g00886/laws.FnExactMostPoints", spec := "fnExactMostPoints", unfollowed := true, recurses := true, named := ["loop.example/g00886/impl.directions"], apart := false, laid := [("loop.example/g00886/impl.directions", laid_loop_example_g00886_impl_directions)] }
def FnExactMostPointsSaid : Prop := fnExactMostPointsRow.holds Tryd.pinned (OpenSpec.ofChange fnExactMostPointsSpec)

/-- ITS FALSE NEIGHBOUR: 'it returns false'. Refute it at one input. -/
def fnExactMostPointsWrong : ChangeSpec := { name := "fnExactMostPoints", vars := ["loop.example/g00886/impl.directions"], fn := fun _ => fun
  | [d1, d2, g1] => { results := [.lit (.bool false)], args := [d1, d2], vars := [g1] }
  | _ => none }
def FnExactMostPointsWrongFalsely : Prop := fnExactMostPointsRow.holds Tryd.pinned (OpenSpec.ofChange fnExactMostPointsWrong)

/-- 'laws.FnExactStaleHexes': WHATEVER THE INPUT: true; the input reads as it did. -/
def fnExactStaleHexesSpec : ChangeSpec := { name := "fnExactStaleHexes", vars := ["loop.example/g00886/impl.directions"], fn := fun _ => fun
  | [d1, d2, d3, d4, g1] => { results := [.lit (.bool true)], args := [d1, d2, d3, d4], vars := [g1] }
  | _ => none }
def fnExactStaleHexesRow : OpenClaim := { program := "ytfpafaampjgckaadoor", sum := "faafd118d638184df600036fd2e8ab0847eac0dab00ac36b766c8cfbd38a96c6", func := "loop.example/g00886/laws.FnExactStaleHexes", spec := "fnExactStaleHexes", unfollowed := true, recurses := true, named := ["loop.example/g00886/impl.directions"], apart := false, laid := [("loop.example/g00886/impl.directions", laid_loop_example_g00886_impl_directions)] }
def FnExactStaleHexesSaid : Prop := fnExactStaleHexesRow.holds Tryd.pinned (OpenSpec.ofChange fnExactStaleHexesSpec)

/-- ITS FALSE NEIGHBOUR: 'it returns false'. Refute it at one input. -/
def fnExactStaleHexesWrong : ChangeSpec := { name := "fnExactStaleHexes", vars := ["loop.example/g00886/impl.directions"], fn := fun _ => fun
  | [d1, d2, d3, d4, g1] => { results := [.lit (.bool false)], args := [d1, d2, d3, d4], vars := [g1] }
  | _ => none }
def FnExactStaleHexesWrongFalsely : Prop := fnExactStaleHexesRow.holds Tryd.pinned (OpenSpec.ofChange fnExactStaleHexesWrong)

/-- 'laws.FnExactSuspectedHexes': WHATEVER THE INPUT: true; the input reads as it did. -/
def fnExactSuspectedHexesSpec : ChangeSpec := { name := "fnExactSuspectedHexes", vars := ["loop.example/g00886/impl.directions"], fn := fun _ => fun
  | [d1, d2, g1] => { results := [.lit (.bool true)], args := [d1, d2], vars := [g1] }
  | _ => none }
def fnExactSuspectedHexesRow : OpenClaim := { program := "ytfpafaampjgckaadoor", sum := "faafd118d638184df600036fd2e8ab0847eac0dab00ac36b766c8cfbd38a96c6", func := "loop.example/g00886/laws.FnExactSuspectedHexes", spec := "fnExactSuspectedHexes", unfollowed := true, recurses := true, named := ["loop.example/g00886/impl.directions"], apart := false, laid := [("loop.example/g00886/impl.directions", laid_loop_example_g00886_impl_directions)] }
def FnExactSuspectedHexesSaid : Prop := fnExactSuspectedHexesRow.holds Tryd.pinned (OpenSpec.ofChange fnExactSuspectedHexesSpec)

/-- ITS FALSE NEIGHBOUR: 'it returns false'. Refute it at one input. -/
def fnExactSuspectedHexesWrong : ChangeSpec := { name := "fnExactSuspectedHexes", vars := ["loop.example/g00886/impl.directions"], fn := fun _ => fun
  | [d1, d2, g1] => { results := [.lit (.bool false)], args := [d1, d2], vars := [g1] }
  | _ => none }
def FnExactSuspectedHexesWrongFalsely : Prop := fnExactSuspectedHexesRow.holds Tryd.pinned (OpenSpec.ofChange fnExactSuspectedHexesWrong)

/-- 'laws.FnExactNewMemory': WHATEVER THE INPUT: true; the input reads as it did. -/
def fnExactNewMemorySpec : ChangeSpec := { name := "fnExactNewMemory", vars := ["loop.example/g00886/impl.directions"], fn := fun _ => fun
  | [d, g1] => { results := [.lit (.bool true)], args := [d], vars := [g1] }
  | _ => none }
def fnExactNewMemoryRow : OpenClaim := { program := "ytfpafaampjgckaadoor", sum := "faafd118d638184df600036fd2e8ab0847eac0dab00ac36b766c8cfbd38a96c6", func := "loop.example/g00886/laws.FnExactNewMemory", spec := "fnExactNewMemory", unfollowed := true, recurses := true, named := ["loop.example/g00886/impl.directions"], apart := false, laid := [("loop.example/g00886/impl.directions", laid_loop_example_g00886_impl_directions)] }
def FnExactNewMemorySaid : Prop := fnExactNewMemoryRow.holds Tryd.pinned (OpenSpec.ofChange fnExactNewMemorySpec)

/-- ITS FALSE NEIGHBOUR: 'it returns false'. Refute it at one input. -/
def fnExactNewMemoryWrong : ChangeSpec := { name := "fnExactNewMemory", vars := ["loop.example/g00886/impl.directions"], fn := fun _ => fun
  | [d, g1] => { results := [.lit (.bool false)], args := [d], vars := [g1] }
  | _ => none }
def FnExactNewMemoryWrongFalsely : Prop := fnExactNewMemoryRow.holds Tryd.pinned (OpenSpec.ofChange fnExactNewMemoryWrong)

/-- 'laws.FnExactFullSteps': WHATEVER THE INPUT: true; the input reads as it did. -/
def fnExactFullStepsSpec : ChangeSpec := { name := "fnExactFullSteps", vars := ["loop.example/g00886/impl.directions"], fn := fun _ => fun
  | [d1, d2, g1] => { results := [.lit (.bool true)], args := [d1, d2], vars := [g1] }
  | _ => none }
def fnExactFullStepsRow : OpenClaim := { program := "ytfpafaampjgckaadoor", sum := "faafd118d638184df600036fd2e8ab0847eac0dab00ac36b766c8cfbd38a96c6", func := "loop.example/g00886/laws.FnExactFullSteps", spec := "fnExactFullSteps", unfollowed := true, recurses := true, named := ["loop.example/g00886/impl.directions"], apart := false, laid := [("loop.example/g00886/impl.directions", laid_loop_example_g00886_impl_directions)] }
def FnExactFullStepsSaid : Prop := fnExactFullStepsRow.holds Tryd.pinned (OpenSpec.ofChange fnExactFullStepsSpec)

/-- ITS FALSE NEIGHBOUR: 'it returns false'. Refute it at one input. -/
def fnExactFullStepsWrong : ChangeSpec := { name := "fnExactFullSteps", vars := ["loop.example/g00886/impl.directions"], fn := fun _ => fun
  | [d1, d2, g1] => { results := [.lit (.bool false)], args := [d1, d2], vars := [g1] }
  | _ => none }
def FnExactFullStepsWrongFalsely : Prop := fnExactFullStepsRow.holds Tryd.pinned (OpenSpec.ofChange fnExactFullStepsWrong)

/-- 'laws.FnExactWorthIfSupplied': WHATEVER THE INPUT: true; the input reads as it did. -/
def fnExactWorthIfSuppliedSpec : ChangeSpec := { name := "fnExactWorthIfSupplied", vars := ["loop.example/g00886/impl.directions"], fn := fun _ => fun
  | [d1, d2, d3, g1] => { results := [.lit (.bool true)], args := [d1, d2, d3], vars := [g1] }
  | _ => none }
def fnExactWorthIfSuppliedRow : OpenClaim := { program := "ytfpafaampjgckaadoor", sum := "faafd118d638184df600036fd2e8ab0847eac0dab00ac36b766c8cfbd38a96c6", func := "loop.example/g00886/laws.FnExactWorthIfSupplied", spec := "fnExactWorthIfSupplied", unfollowed := true, recurses := true, named := ["loop.example/g00886/impl.directions"], apart := false, laid := [("loop.example/g00886/impl.directions", laid_loop_example_g00886_impl_directions)] }
def FnExactWorthIfSuppliedSaid : Prop := fnExactWorthIfSuppliedRow.holds Tryd.pinned (OpenSpec.ofChange fnExactWorthIfSuppliedSpec)

/-- ITS FALSE NEIGHBOUR: 'it returns false'. Refute it at one input. -/
def fnExactWorthIfSuppliedWrong : ChangeSpec := { name := "fnExactWorthIfSupplied", vars := ["loop.example/g00886/impl.directions"], fn := fun _ => fun
  | [d1, d2, d3, g1] => { results := [.lit (.bool false)], args := [d1, d2, d3], vars := [g1] }
  | _ => none }
def FnExactWorthIfSuppliedWrongFalsely : Prop := fnExactWorthIfSuppliedRow.holds Tryd.pinned (OpenSpec.ofChange fnExactWorthIfSuppliedWrong)

/-- 'laws.FnExactIsView': WHATEVER THE INPUT: true; the input reads as it did. -/
def fnExactIsViewSpec : ChangeSpec := { name := "fnExactIsView", vars := ["loop.example/g00886/impl.directions"], fn := fun _ => fun
  | [d1, d2, g1] => { results := [.lit (.bool true)], args := [d1, d2], vars := [g1] }
  | _ => none }
def fnExactIsViewRow : OpenClaim := { program := "ytfpafaampjgckaadoor", sum := "faafd118d638184df600036fd2e8ab0847eac0dab00ac36b766c8cfbd38a96c6", func := "loop.example/g00886/laws.FnExactIsView", spec := "fnExactIsView", unfollowed := true, recurses := true, named := ["loop.example/g00886/impl.directions"], apart := false, laid := [("loop.example/g00886/impl.directions", laid_loop_example_g00886_impl_directions)] }
def FnExactIsViewSaid : Prop := fnExactIsViewRow.holds Tryd.pinned (OpenSpec.ofChange fnExactIsViewSpec)

/-- ITS FALSE NEIGHBOUR: 'it returns false'. Refute it at one input. -/
def fnExactIsViewWrong : ChangeSpec := { name := "fnExactIsView", vars := ["loop.example/g00886/impl.directions"], fn := fun _ => fun
  | [d1, d2, g1] => { results := [.lit (.bool false)], args := [d1, d2], vars := [g1] }
  | _ => none }
def FnExactIsViewWrongFalsely : Prop := fnExactIsViewRow.holds Tryd.pinned (OpenSpec.ofChange fnExactIsViewWrong)

/-- 'laws.FnExactFireTarget': WHATEVER THE INPUT: true; the input reads as it did. -/
def fnExactFireTargetSpec : ChangeSpec := { name := "fnExactFireTarget", vars := ["loop.example/g00886/impl.directions"], fn := fun _ => fun
  | [d1, d2, d3, g1] => { results := [.lit (.bool true)], args := [d1, d2, d3], vars := [g1] }
  | _ => none }
def fnExactFireTargetRow : OpenClaim := { program := "ytfpafaampjgckaadoor", sum := "faafd118d638184df600036fd2e8ab0847eac0dab00ac36b766c8cfbd38a96c6", func := "loop.example/g00886/laws.FnExactFireTarget", spec := "fnExactFireTarget", unfollowed := true, recurses := true, named := ["loop.example/g00886/impl.directions"], apart := false, laid := [("loop.example/g00886/impl.directions", laid_loop_example_g00886_impl_directions)] }
def FnExactFireTargetSaid : Prop := fnExactFireTargetRow.holds Tryd.pinned (OpenSpec.ofChange fnExactFireTargetSpec)

/-- ITS FALSE NEIGHBOUR: 'it returns false'. Refute it at one input. -/
def fnExactFireTargetWrong : ChangeSpec := { name := "fnExactFireTarget", vars := ["loop.example/g00886/impl.directions"], fn := fun _ => fun
  | [d1, d2, d3, g1] => { results := [.lit (.bool false)], args := [d1, d2, d3], vars := [g1] }
  | _ => none }
def FnExactFireTargetWrongFalsely : Prop := fnExactFireTargetRow.holds Tryd.pinned (OpenSpec.ofChange fnExactFireTargetWrong)

/-- 'laws.FnExactAreReactions': WHATEVER THE INPUT: true; the input reads as it did. -/
def fnExactAreReactionsSpec : ChangeSpec := { name := "fnExactAreReactions", vars := ["loop.example/g00886/impl.directions"], fn := fun _ => fun
  | [d1, d2, d3, g1] => { results := [.lit (.bool true)], args := [d1, d2, d3], vars := [g1] }
  | _ => none }
def fnExactAreReactionsRow : OpenClaim := { program := "ytfpafaampjgckaadoor", sum := "faafd118d638184df600036fd2e8ab0847eac0dab00ac36b766c8cfbd38a96c6", func := "loop.example/g00886/laws.FnExactAreReactions", spec := "fnExactAreReactions", unfollowed := true, recurses := true, named := ["loop.example/g00886/impl.directions"], apart := false, laid := [("loop.example/g00886/impl.directions", laid_loop_example_g00886_impl_directions)] }
def FnExactAreReactionsSaid : Prop := fnExactAreReactionsRow.holds Tryd.pinned (OpenSpec.ofChange fnExactAreReactionsSpec)

/-- ITS FALSE NEIGHBOUR: 'it returns false'. Refute it at one input. -/
def fnExactAreReactionsWrong : ChangeSpec := { name := "fnExactAreReactions", vars := ["loop.example/g00886/impl.directions"], fn := fun _ => fun
  | [d1, d2, d3, g1] => { results := [.lit (.bool false)], args := [d1, d2, d3], vars := [g1] }
  | _ => none }
def FnExactAreReactionsWrongFalsely : Prop := fnExactAreReactionsRow.holds Tryd.pinned (OpenSpec.ofChange fnExactAreReactionsWrong)

/- THE SECOND FORM. 'bulk': how many values and letters a reading holds, each counted each time it is reached (what is shared counts as often as it is met; a slice's spare places count too). A statement '..UptoSaid' is the law's where the arguments, and the package variables that the reading takes, are together of bulk at most 1048576: NARROWER than '..Said'. Prove '..Said' where nothing that the law and all that it calls make is longer than what came in: it says more and counts as full. Else prove '..UptoSaid'. A law counts once. -/
mutual
def uptoBulk {H : Type} : DataW H → Nat
  | .lit (.string bytes) => bytes.length + 1
  | .lit _ => 1
  | .nil => 1
  | .ptr d => uptoBulk d + 1
  | .slice elems spare => uptoBulkAll elems + uptoBulkAll spare + 1
  | .agg parts => uptoBulkAll parts + 1
  | .iface _ d => uptoBulk d + 1
  | .map entries => uptoBulkEntries entries + 1
  | .held _ => 1
def uptoBulkAll {H : Type} : List (DataW H) → Nat
  | [] => 0
  | d :: r => uptoBulk d + uptoBulkAll r
def uptoBulkEntries {H : Type} : List (Lit × DataW H) → Nat
  | [] => 0
  | x :: r => uptoBulkEntry x + uptoBulkEntries r
def uptoBulkEntry {H : Type} : Lit × DataW H → Nat
  | (.string bytes, d) => bytes.length + uptoBulk d + 1
  | (_, d) => uptoBulk d + 1
 end
def uptoSmall : (H : Type) → List (DataW H) → Bool := fun _ ds => decide (uptoBulkAll ds ≤ 1048576)
def OpenSpec.upto (s : _root_.Go.ChangeSpec) : _root_.Go.OpenSpec := { _root_.Go.OpenSpec.ofChange s with cond := some uptoSmall }

/-- 'laws.FnExactIsMemory', WHERE WHAT IT READS IS OF BULK AT MOST 1048576: true; the input reads as it did. -/
def fnExactIsMemoryUptoRow : OpenClaim := { program := "ytfpafaampjgckaadoor", sum := "faafd118d638184df600036fd2e8ab0847eac0dab00ac36b766c8cfbd38a96c6", func := "loop.example/g00886/laws.FnExactIsMemory", spec := "fnExactIsMemory", unfollowed := true, recurses := true, named := ["loop.example/g00886/impl.directions"], apart := false, laid := [("loop.example/g00886/impl.directions", laid_loop_example_g00886_impl_directions)], narrowed := true }
def FnExactIsMemoryUptoSaid : Prop := fnExactIsMemoryUptoRow.holds Tryd.pinned (OpenSpec.upto fnExactIsMemorySpec)

/-- 'laws.FnExactAreConditions', WHERE WHAT IT READS IS OF BULK AT MOST 1048576: true; the input reads as it did. -/
def fnExactAreConditionsUptoRow : OpenClaim := { program := "ytfpafaampjgckaadoor", sum := "faafd118d638184df600036fd2e8ab0847eac0dab00ac36b766c8cfbd38a96c6", func := "loop.example/g00886/laws.FnExactAreConditions", spec := "fnExactAreConditions", unfollowed := true, recurses := true, named := ["loop.example/g00886/impl.directions"], apart := false, laid := [("loop.example/g00886/impl.directions", laid_loop_example_g00886_impl_directions)], narrowed := true }
def FnExactAreConditionsUptoSaid : Prop := fnExactAreConditionsUptoRow.holds Tryd.pinned (OpenSpec.upto fnExactAreConditionsSpec)

/-- 'laws.FnExactMostPoints', WHERE WHAT IT READS IS OF BULK AT MOST 1048576: true; the input reads as it did. -/
def fnExactMostPointsUptoRow : OpenClaim := { program := "ytfpafaampjgckaadoor", sum := "faafd118d638184df600036fd2e8ab0847eac0dab00ac36b766c8cfbd38a96c6", func := "loop.example/g00886/laws.FnExactMostPoints", spec := "fnExactMostPoints", unfollowed := true, recurses := true, named := ["loop.example/g00886/impl.directions"], apart := false, laid := [("loop.example/g00886/impl.directions", laid_loop_example_g00886_impl_directions)], narrowed := true }
def FnExactMostPointsUptoSaid : Prop := fnExactMostPointsUptoRow.holds Tryd.pinned (OpenSpec.upto fnExactMostPointsSpec)

/-- 'laws.FnExactStaleHexes', WHERE WHAT IT READS IS OF BULK AT MOST 1048576: true; the input reads as it did. -/
def fnExactStaleHexesUptoRow : OpenClaim := { program := "ytfpafaampjgckaadoor", sum := "faafd118d638184df600036fd2e8ab0847eac0dab00ac36b766c8cfbd38a96c6", func := "loop.example/g00886/laws.FnExactStaleHexes", spec := "fnExactStaleHexes", unfollowed := true, recurses := true, named := ["loop.example/g00886/impl.directions"], apart := false, laid := [("loop.example/g00886/impl.directions", laid_loop_example_g00886_impl_directions)], narrowed := true }
def FnExactStaleHexesUptoSaid : Prop := fnExactStaleHexesUptoRow.holds Tryd.pinned (OpenSpec.upto fnExactStaleHexesSpec)

/-- 'laws.FnExactSuspectedHexes', WHERE WHAT IT READS IS OF BULK AT MOST 1048576: true; the input reads as it did. -/
def fnExactSuspectedHexesUptoRow : OpenClaim := { program := "ytfpafaampjgckaadoor", sum := "faafd118d638184df600036fd2e8ab0847eac0dab00ac36b766c8cfbd38a96c6", func := "loop.example/g00886/laws.FnExactSuspectedHexes", spec := "fnExactSuspectedHexes", unfollowed := true, recurses := true, named := ["loop.example/g00886/impl.directions"], apart := false, laid := [("loop.example/g00886/impl.directions", laid_loop_example_g00886_impl_directions)], narrowed := true }
def FnExactSuspectedHexesUptoSaid : Prop := fnExactSuspectedHexesUptoRow.holds Tryd.pinned (OpenSpec.upto fnExactSuspectedHexesSpec)

/-- 'laws.FnExactNewMemory', WHERE WHAT IT READS IS OF BULK AT MOST 1048576: true; the input reads as it did. -/
def fnExactNewMemoryUptoRow : OpenClaim := { program := "ytfpafaampjgckaadoor", sum := "faafd118d638184df600036fd2e8ab0847eac0dab00ac36b766c8cfbd38a96c6", func := "loop.example/g00886/laws.FnExactNewMemory", spec := "fnExactNewMemory", unfollowed := true, recurses := true, named := ["loop.example/g00886/impl.directions"], apart := false, laid := [("loop.example/g00886/impl.directions", laid_loop_example_g00886_impl_directions)], narrowed := true }
def FnExactNewMemoryUptoSaid : Prop := fnExactNewMemoryUptoRow.holds Tryd.pinned (OpenSpec.upto fnExactNewMemorySpec)

/-- 'laws.FnExactFullSteps', WHERE WHAT IT READS IS OF BULK AT MOST 1048576: true; the input reads as it did. -/
def fnExactFullStepsUptoRow : OpenClaim := { program := "ytfpafaampjgckaadoor", sum := "faafd118d638184df600036fd2e8ab0847eac0dab00ac36b766c8cfbd38a96c6", func := "loop.example/g00886/laws.FnExactFullSteps", spec := "fnExactFullSteps", unfollowed := true, recurses := true, named := ["loop.example/g00886/impl.directions"], apart := false, laid := [("loop.example/g00886/impl.directions", laid_loop_example_g00886_impl_directions)], narrowed := true }
def FnExactFullStepsUptoSaid : Prop := fnExactFullStepsUptoRow.holds Tryd.pinned (OpenSpec.upto fnExactFullStepsSpec)

/-- 'laws.FnExactWorthIfSupplied', WHERE WHAT IT READS IS OF BULK AT MOST 1048576: true; the input reads as it did. -/
def fnExactWorthIfSuppliedUptoRow : OpenClaim := { program := "ytfpafaampjgckaadoor", sum := "faafd118d638184df600036fd2e8ab0847eac0dab00ac36b766c8cfbd38a96c6", func := "loop.example/g00886/laws.FnExactWorthIfSupplied", spec := "fnExactWorthIfSupplied", unfollowed := true, recurses := true, named := ["loop.example/g00886/impl.directions"], apart := false, laid := [("loop.example/g00886/impl.directions", laid_loop_example_g00886_impl_directions)], narrowed := true }
def FnExactWorthIfSuppliedUptoSaid : Prop := fnExactWorthIfSuppliedUptoRow.holds Tryd.pinned (OpenSpec.upto fnExactWorthIfSuppliedSpec)

/-- 'laws.FnExactIsView', WHERE WHAT IT READS IS OF BULK AT MOST 1048576: true; the input reads as it did. -/
def fnExactIsViewUptoRow : OpenClaim := { program := "ytfpafaampjgckaadoor", sum := "faafd118d638184df600036fd2e8ab0847eac0dab00ac36b766c8cfbd38a96c6", func := "loop.example/g00886/laws.FnExactIsView", spec := "fnExactIsView", unfollowed := true, recurses := true, named := ["loop.example/g00886/impl.directions"], apart := false, laid := [("loop.example/g00886/impl.directions", laid_loop_example_g00886_impl_directions)], narrowed := true }
def FnExactIsViewUptoSaid : Prop := fnExactIsViewUptoRow.holds Tryd.pinned (OpenSpec.upto fnExactIsViewSpec)

/-- 'laws.FnExactFireTarget', WHERE WHAT IT READS IS OF BULK AT MOST 1048576: true; the input reads as it did. -/
def fnExactFireTargetUptoRow : OpenClaim := { program := "ytfpafaampjgckaadoor", sum := "faafd118d638184df600036fd2e8ab0847eac0dab00ac36b766c8cfbd38a96c6", func := "loop.example/g00886/laws.FnExactFireTarget", spec := "fnExactFireTarget", unfollowed := true, recurses := true, named := ["loop.example/g00886/impl.directions"], apart := false, laid := [("loop.example/g00886/impl.directions", laid_loop_example_g00886_impl_directions)], narrowed := true }
def FnExactFireTargetUptoSaid : Prop := fnExactFireTargetUptoRow.holds Tryd.pinned (OpenSpec.upto fnExactFireTargetSpec)

/-- 'laws.FnExactAreReactions', WHERE WHAT IT READS IS OF BULK AT MOST 1048576: true; the input reads as it did. -/
def fnExactAreReactionsUptoRow : OpenClaim := { program := "ytfpafaampjgckaadoor", sum := "faafd118d638184df600036fd2e8ab0847eac0dab00ac36b766c8cfbd38a96c6", func := "loop.example/g00886/laws.FnExactAreReactions", spec := "fnExactAreReactions", unfollowed := true, recurses := true, named := ["loop.example/g00886/impl.directions"], apart := false, laid := [("loop.example/g00886/impl.directions", laid_loop_example_g00886_impl_directions)], narrowed := true }
def FnExactAreReactionsUptoSaid : Prop := fnExactAreReactionsUptoRow.holds Tryd.pinned (OpenSpec.upto fnExactAreReactionsSpec)

end Rows
end Go.Proofs.YtfpafaampjgckaaDoor
