/-
  No cell of these rows narrows 'for every input' (looked for: loops, veiled, ifaces, maps, wideKeys, modest, calm, conditions, laid).
  DERIVED. THE GIVEN ROWS OF THIS SEAT. 8 by the template 'for every input the law returns true; each argument reads behind the call as it read before'; 0 by the template 'total and deterministic' (their statements: YthlkfhblecipbaaTotals.lean).
  GIVEN WITH THE SEED: the statements are not yours to turn. If you find one false, say at which input.
  Laid BY PROGRAM, IN A SANDBOX (cutbox-rows.mjs): the forced cells as the released guide's own fill.sh prints them over the translation 39a1f44fceb26e01… (all of the seat's roots in one cut). By AI agents, Wed Nov 11 2026. No macro, syntax, notation, axiom, sorry.
-/
import Derived.Test.YthlkfhblecipbaaChecked
import GoSem.Claim
import GoSem.ClaimJoined
import GoSem.ClaimMapViews
import Derived.JoinedTies
import Derived.KernelRfl
namespace Go.Proofs.Ythlkfhblecipbaa
/- THE CELL 'sum', in the pinned program and in every row, IS THE sha256 OF THE DUMP (.gsa) THAT YthlkfhblecipbaaProg.lean LOADS. Nothing in Lean hashes anything: it is a label: what it is worth is what the hold of that sum in a sandbox is worth. -/
noncomputable def Try.pinned : Pinned := { name := "ythlkfhblecipbaa", sum := "39a1f44fceb26e01a4d2056f8519b1de63383972302635ab5758f9a9accc9b32", checked := Try.checked }
namespace Rows
def none {H : Type} : Left H := { results := [], args := [] }

/-- 'laws.FnExactWeatherName': WHATEVER THE INPUT: true; the input reads as it did. -/
def fnExactWeatherNameSpec : ChangeSpec := { name := "fnExactWeatherName", fn := fun _ => fun
  | [d] => { results := [.lit (.bool true)], args := [d] }
  | _ => none }
def fnExactWeatherNameRow : OpenClaim := { program := "ythlkfhblecipbaa", sum := "39a1f44fceb26e01a4d2056f8519b1de63383972302635ab5758f9a9accc9b32", func := "loop.example/g00886/laws.FnExactWeatherName", spec := "fnExactWeatherName", apart := false }
def FnExactWeatherNameSaid : Prop := fnExactWeatherNameRow.holds Try.pinned (OpenSpec.ofChange fnExactWeatherNameSpec)

/-- ITS FALSE NEIGHBOUR: 'it returns false'. Refute it at one input. -/
def fnExactWeatherNameWrong : ChangeSpec := { name := "fnExactWeatherName", fn := fun _ => fun
  | [d] => { results := [.lit (.bool false)], args := [d] }
  | _ => none }
def FnExactWeatherNameWrongFalsely : Prop := fnExactWeatherNameRow.holds Try.pinned (OpenSpec.ofChange fnExactWeatherNameWrong)

/-- 'laws.FnExactPhaseName': WHATEVER THE INPUT: true; the input reads as it did. -/
def fnExactPhaseNameSpec : ChangeSpec := { name := "fnExactPhaseName", fn := fun _ => fun
  | [d] => { results := [.lit (.bool true)], args := [d] }
  | _ => none }
def fnExactPhaseNameRow : OpenClaim := { program := "ythlkfhblecipbaa", sum := "39a1f44fceb26e01a4d2056f8519b1de63383972302635ab5758f9a9accc9b32", func := "loop.example/g00886/laws.FnExactPhaseName", spec := "fnExactPhaseName", apart := false }
def FnExactPhaseNameSaid : Prop := fnExactPhaseNameRow.holds Try.pinned (OpenSpec.ofChange fnExactPhaseNameSpec)

/-- ITS FALSE NEIGHBOUR: 'it returns false'. Refute it at one input. -/
def fnExactPhaseNameWrong : ChangeSpec := { name := "fnExactPhaseName", fn := fun _ => fun
  | [d] => { results := [.lit (.bool false)], args := [d] }
  | _ => none }
def FnExactPhaseNameWrongFalsely : Prop := fnExactPhaseNameRow.holds Try.pinned (OpenSpec.ofChange fnExactPhaseNameWrong)

/-- 'laws.FnExactIsClimate': WHATEVER THE INPUT: true; the input reads as it did. -/
def fnExactIsClimateSpec : ChangeSpec := { name := "fnExactIsClimate", fn := fun _ => fun
  | [d] => { results := [.lit (.bool true)], args := [d] }
  | _ => none }
def fnExactIsClimateRow : OpenClaim := { program := "ythlkfhblecipbaa", sum := "39a1f44fceb26e01a4d2056f8519b1de63383972302635ab5758f9a9accc9b32", func := "loop.example/g00886/laws.FnExactIsClimate", spec := "fnExactIsClimate", apart := false }
def FnExactIsClimateSaid : Prop := fnExactIsClimateRow.holds Try.pinned (OpenSpec.ofChange fnExactIsClimateSpec)

/-- ITS FALSE NEIGHBOUR: 'it returns false'. Refute it at one input. -/
def fnExactIsClimateWrong : ChangeSpec := { name := "fnExactIsClimate", fn := fun _ => fun
  | [d] => { results := [.lit (.bool false)], args := [d] }
  | _ => none }
def FnExactIsClimateWrongFalsely : Prop := fnExactIsClimateRow.holds Try.pinned (OpenSpec.ofChange fnExactIsClimateWrong)

/-- 'laws.FnExactLikelihoodOf': WHATEVER THE INPUT: true; the input reads as it did. -/
def fnExactLikelihoodOfSpec : ChangeSpec := { name := "fnExactLikelihoodOf", fn := fun _ => fun
  | [d1, d2] => { results := [.lit (.bool true)], args := [d1, d2] }
  | _ => none }
def fnExactLikelihoodOfRow : OpenClaim := { program := "ythlkfhblecipbaa", sum := "39a1f44fceb26e01a4d2056f8519b1de63383972302635ab5758f9a9accc9b32", func := "loop.example/g00886/laws.FnExactLikelihoodOf", spec := "fnExactLikelihoodOf", unfollowed := true, recurses := true, apart := false }
def FnExactLikelihoodOfSaid : Prop := fnExactLikelihoodOfRow.holds Try.pinned (OpenSpec.ofChange fnExactLikelihoodOfSpec)

/-- ITS FALSE NEIGHBOUR: 'it returns false'. Refute it at one input. -/
def fnExactLikelihoodOfWrong : ChangeSpec := { name := "fnExactLikelihoodOf", fn := fun _ => fun
  | [d1, d2] => { results := [.lit (.bool false)], args := [d1, d2] }
  | _ => none }
def FnExactLikelihoodOfWrongFalsely : Prop := fnExactLikelihoodOfRow.holds Try.pinned (OpenSpec.ofChange fnExactLikelihoodOfWrong)

/-- 'laws.FnExactSameView': WHATEVER THE INPUT: true; the input reads as it did. -/
def fnExactSameViewSpec : ChangeSpec := { name := "fnExactSameView", fn := fun _ => fun
  | [d1, d2] => { results := [.lit (.bool true)], args := [d1, d2] }
  | _ => none }
def fnExactSameViewRow : OpenClaim := { program := "ythlkfhblecipbaa", sum := "39a1f44fceb26e01a4d2056f8519b1de63383972302635ab5758f9a9accc9b32", func := "loop.example/g00886/laws.FnExactSameView", spec := "fnExactSameView", apart := false }
def FnExactSameViewSaid : Prop := fnExactSameViewRow.holds Try.pinned (OpenSpec.ofChange fnExactSameViewSpec)

/-- ITS FALSE NEIGHBOUR: 'it returns false'. Refute it at one input. -/
def fnExactSameViewWrong : ChangeSpec := { name := "fnExactSameView", fn := fun _ => fun
  | [d1, d2] => { results := [.lit (.bool false)], args := [d1, d2] }
  | _ => none }
def FnExactSameViewWrongFalsely : Prop := fnExactSameViewRow.holds Try.pinned (OpenSpec.ofChange fnExactSameViewWrong)

/-- 'laws.FnExactCanFollow': WHATEVER THE INPUT: true; the input reads as it did. -/
def fnExactCanFollowSpec : ChangeSpec := { name := "fnExactCanFollow", fn := fun _ => fun
  | [d1, d2, d3] => { results := [.lit (.bool true)], args := [d1, d2, d3] }
  | _ => none }
def fnExactCanFollowRow : OpenClaim := { program := "ythlkfhblecipbaa", sum := "39a1f44fceb26e01a4d2056f8519b1de63383972302635ab5758f9a9accc9b32", func := "loop.example/g00886/laws.FnExactCanFollow", spec := "fnExactCanFollow", apart := false }
def FnExactCanFollowSaid : Prop := fnExactCanFollowRow.holds Try.pinned (OpenSpec.ofChange fnExactCanFollowSpec)

/-- ITS FALSE NEIGHBOUR: 'it returns false'. Refute it at one input. -/
def fnExactCanFollowWrong : ChangeSpec := { name := "fnExactCanFollow", fn := fun _ => fun
  | [d1, d2, d3] => { results := [.lit (.bool false)], args := [d1, d2, d3] }
  | _ => none }
def FnExactCanFollowWrongFalsely : Prop := fnExactCanFollowRow.holds Try.pinned (OpenSpec.ofChange fnExactCanFollowWrong)

/-- 'laws.FnExactEvenTurn': WHATEVER THE INPUT: true; the input reads as it did. -/
def fnExactEvenTurnSpec : ChangeSpec := { name := "fnExactEvenTurn", fn := fun _ => fun
  | [d1, d2, d3] => { results := [.lit (.bool true)], args := [d1, d2, d3] }
  | _ => none }
def fnExactEvenTurnRow : OpenClaim := { program := "ythlkfhblecipbaa", sum := "39a1f44fceb26e01a4d2056f8519b1de63383972302635ab5758f9a9accc9b32", func := "loop.example/g00886/laws.FnExactEvenTurn", spec := "fnExactEvenTurn", apart := false }
def FnExactEvenTurnSaid : Prop := fnExactEvenTurnRow.holds Try.pinned (OpenSpec.ofChange fnExactEvenTurnSpec)

/-- ITS FALSE NEIGHBOUR: 'it returns false'. Refute it at one input. -/
def fnExactEvenTurnWrong : ChangeSpec := { name := "fnExactEvenTurn", fn := fun _ => fun
  | [d1, d2, d3] => { results := [.lit (.bool false)], args := [d1, d2, d3] }
  | _ => none }
def FnExactEvenTurnWrongFalsely : Prop := fnExactEvenTurnRow.holds Try.pinned (OpenSpec.ofChange fnExactEvenTurnWrong)

/-- 'laws.FnExactAttacksOf': WHATEVER THE INPUT: true; the input reads as it did. -/
def fnExactAttacksOfSpec : ChangeSpec := { name := "fnExactAttacksOf", fn := fun _ => fun
  | [d1, d2] => { results := [.lit (.bool true)], args := [d1, d2] }
  | _ => none }
def fnExactAttacksOfRow : OpenClaim := { program := "ythlkfhblecipbaa", sum := "39a1f44fceb26e01a4d2056f8519b1de63383972302635ab5758f9a9accc9b32", func := "loop.example/g00886/laws.FnExactAttacksOf", spec := "fnExactAttacksOf", apart := false }
def FnExactAttacksOfSaid : Prop := fnExactAttacksOfRow.holds Try.pinned (OpenSpec.ofChange fnExactAttacksOfSpec)

/-- ITS FALSE NEIGHBOUR: 'it returns false'. Refute it at one input. -/
def fnExactAttacksOfWrong : ChangeSpec := { name := "fnExactAttacksOf", fn := fun _ => fun
  | [d1, d2] => { results := [.lit (.bool false)], args := [d1, d2] }
  | _ => none }
def FnExactAttacksOfWrongFalsely : Prop := fnExactAttacksOfRow.holds Try.pinned (OpenSpec.ofChange fnExactAttacksOfWrong)

/- THE SECOND FORM. 'bulk': how many values and letters a reading holds, each counted each time it is reached (what is shared counts as often as it is met; a slice's spare places count too). A statement '..UptoSaid' is the law's where the arguments, and the package variables that the reading takes, are together of bulk at most 1048576: NARROWER than '..Said'. Prove '..Said' where nothing that the law and all that it calls make is longer than what came in: it says more and counts as full. Else prove '..UptoSaid'. A law counts once. -/
mutual
def uptoBulk {H : Type} : DataW H → Nat
  | .lit (.string bytes) => bytes.length + 1
  | .lit _ => 1
  | .nil => 1
  | .ptr d => uptoBulk d + 1
  | .slice elems spare => uptoBulkAll elems + uptoBulkAll spare + 1
  | .agg parts => uptoBulkAll parts + 1
  | .iface _ d => uptoBulk d + 1
  | .map entries => uptoBulkEntries entries + 1
  | .held _ => 1
def uptoBulkAll {H : Type} : List (DataW H) → Nat
  | [] => 0
  | d :: r => uptoBulk d + uptoBulkAll r
def uptoBulkEntries {H : Type} : List (Lit × DataW H) → Nat
  | [] => 0
  | x :: r => uptoBulkEntry x + uptoBulkEntries r
def uptoBulkEntry {H : Type} : Lit × DataW H → Nat
  | (.string bytes, d) => bytes.length + uptoBulk d + 1
  | (_, d) => uptoBulk d + 1
 end
def uptoSmall : (H : Type) → List (DataW H) → Bool := fun _ ds => decide (uptoBulkAll ds ≤ 1048576)
def OpenSpec.upto (s : _root_.Go.ChangeSpec) : _root_.Go.OpenSpec := { _root_.Go.OpenSpec.ofChange s with cond := some uptoSmall }

/-- 'laws.FnExactWeatherName', WHERE WHAT IT READS IS OF BULK AT MOST 1048576: true; the input reads as it did. -/
def fnExactWeatherNameUptoRow : OpenClaim := { program := "ythlkfhblecipbaa", sum := "39a1f44fceb26e01a4d2056f8519b1de63383972302635ab5758f9a9accc9b32", func := "loop.example/g00886/laws.FnExactWeatherName", spec := "fnExactWeatherName", apart := false, narrowed := true }
def FnExactWeatherNameUptoSaid : Prop := fnExactWeatherNameUptoRow.holds Try.pinned (OpenSpec.upto fnExactWeatherNameSpec)

/-- 'laws.FnExactPhaseName', WHERE WHAT IT READS IS OF BULK AT MOST 1048576: true; the input reads as it did. -/
def fnExactPhaseNameUptoRow : OpenClaim := { program := "ythlkfhblecipbaa", sum := "39a1f44fceb26e01a4d2056f8519b1de63383972302635ab5758f9a9accc9b32", func := "loop.example/g00886/laws.FnExactPhaseName", spec := "fnExactPhaseName", apart := false, narrowed := true }
def FnExactPhaseNameUptoSaid : Prop := fnExactPhaseNameUptoRow.holds Try.pinned (OpenSpec.upto fnExactPhaseNameSpec)

/-- 'laws.FnExactIsClimate', WHERE WHAT IT READS IS OF BULK AT MOST 1048576: true; the input reads as it did. -/
def fnExactIsClimateUptoRow : OpenClaim := { program := "ythlkfhblecipbaa", sum := "39a1f44fceb26e01a4d2056f8519b1de63383972302635ab5758f9a9accc9b32", func := "loop.example/g00886/laws.FnExactIsClimate", spec := "fnExactIsClimate", apart := false, narrowed := true }
def FnExactIsClimateUptoSaid : Prop := fnExactIsClimateUptoRow.holds Try.pinned (OpenSpec.upto fnExactIsClimateSpec)

/-- 'laws.FnExactLikelihoodOf', WHERE WHAT IT READS IS OF BULK AT MOST 1048576: true; the input reads as it did. -/
def fnExactLikelihoodOfUptoRow : OpenClaim := { program := "ythlkfhblecipbaa", sum := "39a1f44fceb26e01a4d2056f8519b1de63383972302635ab5758f9a9accc9b32", func := "loop.example/g00886/laws.FnExactLikelihoodOf", spec := "fnExactLikelihoodOf", unfollowed := true, recurses := true, apart := false, narrowed := true }
def FnExactLikelihoodOfUptoSaid : Prop := fnExactLikelihoodOfUptoRow.holds Try.pinned (OpenSpec.upto fnExactLikelihoodOfSpec)

/-- 'laws.FnExactSameView', WHERE WHAT IT READS IS OF BULK AT MOST 1048576: true; the input reads as it did. -/
def fnExactSameViewUptoRow : OpenClaim := { program := "ythlkfhblecipbaa", sum := "39a1f44fceb26e01a4d2056f8519b1de63383972302635ab5758f9a9accc9b32", func := "loop.example/g00886/laws.FnExactSameView", spec := "fnExactSameView", apart := false, narrowed := true }
def FnExactSameViewUptoSaid : Prop := fnExactSameViewUptoRow.holds Try.pinned (OpenSpec.upto fnExactSameViewSpec)

/-- 'laws.FnExactCanFollow', WHERE WHAT IT READS IS OF BULK AT MOST 1048576: true; the input reads as it did. -/
def fnExactCanFollowUptoRow : OpenClaim := { program := "ythlkfhblecipbaa", sum := "39a1f44fceb26e01a4d2056f8519b1de63383972302635ab5758f9a9accc9b32", func := "loop.example/g00886/laws.FnExactCanFollow", spec := "fnExactCanFollow", apart := false, narrowed := true }
def FnExactCanFollowUptoSaid : Prop := fnExactCanFollowUptoRow.holds Try.pinned (OpenSpec.upto fnExactCanFollowSpec)

/-- 'laws.FnExactEvenTurn', WHERE WHAT IT READS IS OF BULK AT MOST 1048576: true; the input reads as it did. -/
def fnExactEvenTurnUptoRow : OpenClaim := { program := "ythlkfhblecipbaa", sum := "39a1f44fceb26e01a4d2056f8519b1de63383972302635ab5758f9a9accc9b32", func := "loop.example/g00886/laws.FnExactEvenTurn", spec := "fnExactEvenTurn", apart := false, narrowed := true }
def FnExactEvenTurnUptoSaid : Prop := fnExactEvenTurnUptoRow.holds Try.pinned (OpenSpec.upto fnExactEvenTurnSpec)

/-- 'laws.FnExactAttacksOf', WHERE WHAT IT READS IS OF BULK AT MOST 1048576: true; the input reads as it did. -/
def fnExactAttacksOfUptoRow : OpenClaim := { program := "ythlkfhblecipbaa", sum := "39a1f44fceb26e01a4d2056f8519b1de63383972302635ab5758f9a9accc9b32", func := "loop.example/g00886/laws.FnExactAttacksOf", spec := "fnExactAttacksOf", apart := false, narrowed := true }
def FnExactAttacksOfUptoSaid : Prop := fnExactAttacksOfUptoRow.holds Try.pinned (OpenSpec.upto fnExactAttacksOfSpec)

end Rows
end Go.Proofs.Ythlkfhblecipbaa
