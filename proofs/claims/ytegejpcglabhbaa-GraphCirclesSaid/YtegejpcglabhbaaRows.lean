/-
  No cell of these rows narrows 'for every input' (looked for: loops, veiled, ifaces, maps, wideKeys, modest, calm, conditions, laid).
  DERIVED. THE GIVEN ROWS OF THIS SEAT. 17 by the template 'for every input the law returns true; each argument reads behind the call as it read before'; 0 by the template 'total and deterministic' (their statements: YtegejpcglabhbaaTotals.lean).
  GIVEN WITH THE SEED: the statements are not yours to turn. If you find one false, say at which input.
  Laid BY PROGRAM, IN A SANDBOX (cutbox-rows.mjs): the forced cells as the released guide's own fill.sh prints them over the translation f13d5afad5af38a8… (all of the seat's roots in one cut). By AI agents, Wed Nov 11 2026. No macro, syntax, notation, axiom, sorry.
-/
import Derived.Test.YtegejpcglabhbaaChecked
import GoSem.Claim
import GoSem.ClaimJoined
import GoSem.ClaimMapViews
import Derived.JoinedTies
import Derived.KernelRfl
namespace Go.Proofs.Ytegejpcglabhbaa
/- THE CELL 'sum', in the pinned program and in every row, IS THE sha256 OF THE DUMP (.gsa) THAT YtegejpcglabhbaaProg.lean LOADS. Nothing in Lean hashes anything: it is a label: what it is worth is what the hold of that sum in a sandbox is worth. -/
noncomputable def Try.pinned : Pinned := { name := "ytegejpcglabhbaa", sum := "f13d5afad5af38a8fca2154d8a46bf4df6136b2eaa4d744ce342fcbf455d0802", checked := Try.checked }
namespace Rows
def none {H : Type} : Left H := { results := [], args := [] }

/-- 'tenetlaw02.GraphSolves': WHATEVER THE INPUT: true; the input reads as it did. -/
def graphSolvesSpec : ChangeSpec := { name := "graphSolves", fn := fun _ => fun
  | [d1, d2] => { results := [.lit (.bool true)], args := [d1, d2] }
  | _ => none }
def graphSolvesRow : OpenClaim := { program := "ytegejpcglabhbaa", sum := "f13d5afad5af38a8fca2154d8a46bf4df6136b2eaa4d744ce342fcbf455d0802", func := "tenet/tenetlaw02.GraphSolves", spec := "graphSolves", unfollowed := true, recurses := true, apart := false }
def GraphSolvesSaid : Prop := graphSolvesRow.holds Try.pinned (OpenSpec.ofChange graphSolvesSpec)

/-- ITS FALSE NEIGHBOUR: 'it returns false'. Refute it at one input. -/
def graphSolvesWrong : ChangeSpec := { name := "graphSolves", fn := fun _ => fun
  | [d1, d2] => { results := [.lit (.bool false)], args := [d1, d2] }
  | _ => none }
def GraphSolvesWrongFalsely : Prop := graphSolvesRow.holds Try.pinned (OpenSpec.ofChange graphSolvesWrong)

/-- 'tenetlaw02.GraphHolds': WHATEVER THE INPUT: true; the input reads as it did. -/
def graphHoldsSpec : ChangeSpec := { name := "graphHolds", fn := fun _ => fun
  | [d1, d2, d3] => { results := [.lit (.bool true)], args := [d1, d2, d3] }
  | _ => none }
def graphHoldsRow : OpenClaim := { program := "ytegejpcglabhbaa", sum := "f13d5afad5af38a8fca2154d8a46bf4df6136b2eaa4d744ce342fcbf455d0802", func := "tenet/tenetlaw02.GraphHolds", spec := "graphHolds", unfollowed := true, recurses := true, apart := false }
def GraphHoldsSaid : Prop := graphHoldsRow.holds Try.pinned (OpenSpec.ofChange graphHoldsSpec)

/-- ITS FALSE NEIGHBOUR: 'it returns false'. Refute it at one input. -/
def graphHoldsWrong : ChangeSpec := { name := "graphHolds", fn := fun _ => fun
  | [d1, d2, d3] => { results := [.lit (.bool false)], args := [d1, d2, d3] }
  | _ => none }
def GraphHoldsWrongFalsely : Prop := graphHoldsRow.holds Try.pinned (OpenSpec.ofChange graphHoldsWrong)

/-- 'tenetlaw02.GraphLeast': WHATEVER THE INPUT: true; the input reads as it did. -/
def graphLeastSpec : ChangeSpec := { name := "graphLeast", fn := fun _ => fun
  | [d1, d2, d3] => { results := [.lit (.bool true)], args := [d1, d2, d3] }
  | _ => none }
def graphLeastRow : OpenClaim := { program := "ytegejpcglabhbaa", sum := "f13d5afad5af38a8fca2154d8a46bf4df6136b2eaa4d744ce342fcbf455d0802", func := "tenet/tenetlaw02.GraphLeast", spec := "graphLeast", unfollowed := true, recurses := true, apart := false }
def GraphLeastSaid : Prop := graphLeastRow.holds Try.pinned (OpenSpec.ofChange graphLeastSpec)

/-- ITS FALSE NEIGHBOUR: 'it returns false'. Refute it at one input. -/
def graphLeastWrong : ChangeSpec := { name := "graphLeast", fn := fun _ => fun
  | [d1, d2, d3] => { results := [.lit (.bool false)], args := [d1, d2, d3] }
  | _ => none }
def GraphLeastWrongFalsely : Prop := graphLeastRow.holds Try.pinned (OpenSpec.ofChange graphLeastWrong)

/-- 'tenetlaw02.GraphBounds': WHATEVER THE INPUT: true; the input reads as it did. -/
def graphBoundsSpec : ChangeSpec := { name := "graphBounds", fn := fun _ => fun
  | [d1, d2, d3] => { results := [.lit (.bool true)], args := [d1, d2, d3] }
  | _ => none }
def graphBoundsRow : OpenClaim := { program := "ytegejpcglabhbaa", sum := "f13d5afad5af38a8fca2154d8a46bf4df6136b2eaa4d744ce342fcbf455d0802", func := "tenet/tenetlaw02.GraphBounds", spec := "graphBounds", unfollowed := true, recurses := true, apart := false }
def GraphBoundsSaid : Prop := graphBoundsRow.holds Try.pinned (OpenSpec.ofChange graphBoundsSpec)

/-- ITS FALSE NEIGHBOUR: 'it returns false'. Refute it at one input. -/
def graphBoundsWrong : ChangeSpec := { name := "graphBounds", fn := fun _ => fun
  | [d1, d2, d3] => { results := [.lit (.bool false)], args := [d1, d2, d3] }
  | _ => none }
def GraphBoundsWrongFalsely : Prop := graphBoundsRow.holds Try.pinned (OpenSpec.ofChange graphBoundsWrong)

/-- 'tenetlaw02.GraphReaches': WHATEVER THE INPUT: true; the input reads as it did. -/
def graphReachesSpec : ChangeSpec := { name := "graphReaches", fn := fun _ => fun
  | [d1, d2, d3] => { results := [.lit (.bool true)], args := [d1, d2, d3] }
  | _ => none }
def graphReachesRow : OpenClaim := { program := "ytegejpcglabhbaa", sum := "f13d5afad5af38a8fca2154d8a46bf4df6136b2eaa4d744ce342fcbf455d0802", func := "tenet/tenetlaw02.GraphReaches", spec := "graphReaches", unfollowed := true, recurses := true, apart := false }
def GraphReachesSaid : Prop := graphReachesRow.holds Try.pinned (OpenSpec.ofChange graphReachesSpec)

/-- ITS FALSE NEIGHBOUR: 'it returns false'. Refute it at one input. -/
def graphReachesWrong : ChangeSpec := { name := "graphReaches", fn := fun _ => fun
  | [d1, d2, d3] => { results := [.lit (.bool false)], args := [d1, d2, d3] }
  | _ => none }
def GraphReachesWrongFalsely : Prop := graphReachesRow.holds Try.pinned (OpenSpec.ofChange graphReachesWrong)

/-- 'tenetlaw02.GraphFollows': WHATEVER THE INPUT: true; the input reads as it did. -/
def graphFollowsSpec : ChangeSpec := { name := "graphFollows", fn := fun _ => fun
  | [d1, d2, d3] => { results := [.lit (.bool true)], args := [d1, d2, d3] }
  | _ => none }
def graphFollowsRow : OpenClaim := { program := "ytegejpcglabhbaa", sum := "f13d5afad5af38a8fca2154d8a46bf4df6136b2eaa4d744ce342fcbf455d0802", func := "tenet/tenetlaw02.GraphFollows", spec := "graphFollows", unfollowed := true, recurses := true, apart := false }
def GraphFollowsSaid : Prop := graphFollowsRow.holds Try.pinned (OpenSpec.ofChange graphFollowsSpec)

/-- ITS FALSE NEIGHBOUR: 'it returns false'. Refute it at one input. -/
def graphFollowsWrong : ChangeSpec := { name := "graphFollows", fn := fun _ => fun
  | [d1, d2, d3] => { results := [.lit (.bool false)], args := [d1, d2, d3] }
  | _ => none }
def GraphFollowsWrongFalsely : Prop := graphFollowsRow.holds Try.pinned (OpenSpec.ofChange graphFollowsWrong)

/-- 'tenetlaw02.GraphChains': WHATEVER THE INPUT: true; the input reads as it did. -/
def graphChainsSpec : ChangeSpec := { name := "graphChains", fn := fun _ => fun
  | [d1, d2, d3] => { results := [.lit (.bool true)], args := [d1, d2, d3] }
  | _ => none }
def graphChainsRow : OpenClaim := { program := "ytegejpcglabhbaa", sum := "f13d5afad5af38a8fca2154d8a46bf4df6136b2eaa4d744ce342fcbf455d0802", func := "tenet/tenetlaw02.GraphChains", spec := "graphChains", unfollowed := true, recurses := true, apart := false }
def GraphChainsSaid : Prop := graphChainsRow.holds Try.pinned (OpenSpec.ofChange graphChainsSpec)

/-- ITS FALSE NEIGHBOUR: 'it returns false'. Refute it at one input. -/
def graphChainsWrong : ChangeSpec := { name := "graphChains", fn := fun _ => fun
  | [d1, d2, d3] => { results := [.lit (.bool false)], args := [d1, d2, d3] }
  | _ => none }
def GraphChainsWrongFalsely : Prop := graphChainsRow.holds Try.pinned (OpenSpec.ofChange graphChainsWrong)

/-- 'tenetlaw02.GraphMore': WHATEVER THE INPUT: true; the input reads as it did. -/
def graphMoreSpec : ChangeSpec := { name := "graphMore", fn := fun _ => fun
  | [d1, d2, d3] => { results := [.lit (.bool true)], args := [d1, d2, d3] }
  | _ => none }
def graphMoreRow : OpenClaim := { program := "ytegejpcglabhbaa", sum := "f13d5afad5af38a8fca2154d8a46bf4df6136b2eaa4d744ce342fcbf455d0802", func := "tenet/tenetlaw02.GraphMore", spec := "graphMore", unfollowed := true, recurses := true, apart := false }
def GraphMoreSaid : Prop := graphMoreRow.holds Try.pinned (OpenSpec.ofChange graphMoreSpec)

/-- ITS FALSE NEIGHBOUR: 'it returns false'. Refute it at one input. -/
def graphMoreWrong : ChangeSpec := { name := "graphMore", fn := fun _ => fun
  | [d1, d2, d3] => { results := [.lit (.bool false)], args := [d1, d2, d3] }
  | _ => none }
def GraphMoreWrongFalsely : Prop := graphMoreRow.holds Try.pinned (OpenSpec.ofChange graphMoreWrong)

/-- 'tenetlaw02.GraphMinimal': WHATEVER THE INPUT: true; the input reads as it did. -/
def graphMinimalSpec : ChangeSpec := { name := "graphMinimal", fn := fun _ => fun
  | [d1, d2] => { results := [.lit (.bool true)], args := [d1, d2] }
  | _ => none }
def graphMinimalRow : OpenClaim := { program := "ytegejpcglabhbaa", sum := "f13d5afad5af38a8fca2154d8a46bf4df6136b2eaa4d744ce342fcbf455d0802", func := "tenet/tenetlaw02.GraphMinimal", spec := "graphMinimal", unfollowed := true, recurses := true, apart := false }
def GraphMinimalSaid : Prop := graphMinimalRow.holds Try.pinned (OpenSpec.ofChange graphMinimalSpec)

/-- ITS FALSE NEIGHBOUR: 'it returns false'. Refute it at one input. -/
def graphMinimalWrong : ChangeSpec := { name := "graphMinimal", fn := fun _ => fun
  | [d1, d2] => { results := [.lit (.bool false)], args := [d1, d2] }
  | _ => none }
def GraphMinimalWrongFalsely : Prop := graphMinimalRow.holds Try.pinned (OpenSpec.ofChange graphMinimalWrong)

/-- 'tenetlaw02.GraphKeeps': WHATEVER THE INPUT: true; the input reads as it did. -/
def graphKeepsSpec : ChangeSpec := { name := "graphKeeps", fn := fun _ => fun
  | [d1, d2] => { results := [.lit (.bool true)], args := [d1, d2] }
  | _ => none }
def graphKeepsRow : OpenClaim := { program := "ytegejpcglabhbaa", sum := "f13d5afad5af38a8fca2154d8a46bf4df6136b2eaa4d744ce342fcbf455d0802", func := "tenet/tenetlaw02.GraphKeeps", spec := "graphKeeps", unfollowed := true, recurses := true, apart := false }
def GraphKeepsSaid : Prop := graphKeepsRow.holds Try.pinned (OpenSpec.ofChange graphKeepsSpec)

/-- ITS FALSE NEIGHBOUR: 'it returns false'. Refute it at one input. -/
def graphKeepsWrong : ChangeSpec := { name := "graphKeeps", fn := fun _ => fun
  | [d1, d2] => { results := [.lit (.bool false)], args := [d1, d2] }
  | _ => none }
def GraphKeepsWrongFalsely : Prop := graphKeepsRow.holds Try.pinned (OpenSpec.ofChange graphKeepsWrong)

/-- 'tenetlaw02.GraphClasses': WHATEVER THE INPUT: true; the input reads as it did. -/
def graphClassesSpec : ChangeSpec := { name := "graphClasses", fn := fun _ => fun
  | [d1, d2] => { results := [.lit (.bool true)], args := [d1, d2] }
  | _ => none }
def graphClassesRow : OpenClaim := { program := "ytegejpcglabhbaa", sum := "f13d5afad5af38a8fca2154d8a46bf4df6136b2eaa4d744ce342fcbf455d0802", func := "tenet/tenetlaw02.GraphClasses", spec := "graphClasses", unfollowed := true, recurses := true, apart := false }
def GraphClassesSaid : Prop := graphClassesRow.holds Try.pinned (OpenSpec.ofChange graphClassesSpec)

/-- ITS FALSE NEIGHBOUR: 'it returns false'. Refute it at one input. -/
def graphClassesWrong : ChangeSpec := { name := "graphClasses", fn := fun _ => fun
  | [d1, d2] => { results := [.lit (.bool false)], args := [d1, d2] }
  | _ => none }
def GraphClassesWrongFalsely : Prop := graphClassesRow.holds Try.pinned (OpenSpec.ofChange graphClassesWrong)

/-- 'tenetlaw02.GraphPairs': WHATEVER THE INPUT: true; the input reads as it did. -/
def graphPairsSpec : ChangeSpec := { name := "graphPairs", fn := fun _ => fun
  | [d1, d2, d3] => { results := [.lit (.bool true)], args := [d1, d2, d3] }
  | _ => none }
def graphPairsRow : OpenClaim := { program := "ytegejpcglabhbaa", sum := "f13d5afad5af38a8fca2154d8a46bf4df6136b2eaa4d744ce342fcbf455d0802", func := "tenet/tenetlaw02.GraphPairs", spec := "graphPairs", unfollowed := true, recurses := true, apart := false }
def GraphPairsSaid : Prop := graphPairsRow.holds Try.pinned (OpenSpec.ofChange graphPairsSpec)

/-- ITS FALSE NEIGHBOUR: 'it returns false'. Refute it at one input. -/
def graphPairsWrong : ChangeSpec := { name := "graphPairs", fn := fun _ => fun
  | [d1, d2, d3] => { results := [.lit (.bool false)], args := [d1, d2, d3] }
  | _ => none }
def GraphPairsWrongFalsely : Prop := graphPairsRow.holds Try.pinned (OpenSpec.ofChange graphPairsWrong)

/-- 'tenetlaw02.GraphExtends': WHATEVER THE INPUT: true; the input reads as it did. -/
def graphExtendsSpec : ChangeSpec := { name := "graphExtends", fn := fun _ => fun
  | [d1, d2, d3] => { results := [.lit (.bool true)], args := [d1, d2, d3] }
  | _ => none }
def graphExtendsRow : OpenClaim := { program := "ytegejpcglabhbaa", sum := "f13d5afad5af38a8fca2154d8a46bf4df6136b2eaa4d744ce342fcbf455d0802", func := "tenet/tenetlaw02.GraphExtends", spec := "graphExtends", unfollowed := true, recurses := true, apart := false }
def GraphExtendsSaid : Prop := graphExtendsRow.holds Try.pinned (OpenSpec.ofChange graphExtendsSpec)

/-- ITS FALSE NEIGHBOUR: 'it returns false'. Refute it at one input. -/
def graphExtendsWrong : ChangeSpec := { name := "graphExtends", fn := fun _ => fun
  | [d1, d2, d3] => { results := [.lit (.bool false)], args := [d1, d2, d3] }
  | _ => none }
def GraphExtendsWrongFalsely : Prop := graphExtendsRow.holds Try.pinned (OpenSpec.ofChange graphExtendsWrong)

/-- 'tenetlaw02.GraphJoins': WHATEVER THE INPUT: true; the input reads as it did. -/
def graphJoinsSpec : ChangeSpec := { name := "graphJoins", fn := fun _ => fun
  | [d1, d2, d3] => { results := [.lit (.bool true)], args := [d1, d2, d3] }
  | _ => none }
def graphJoinsRow : OpenClaim := { program := "ytegejpcglabhbaa", sum := "f13d5afad5af38a8fca2154d8a46bf4df6136b2eaa4d744ce342fcbf455d0802", func := "tenet/tenetlaw02.GraphJoins", spec := "graphJoins", unfollowed := true, recurses := true, apart := false }
def GraphJoinsSaid : Prop := graphJoinsRow.holds Try.pinned (OpenSpec.ofChange graphJoinsSpec)

/-- ITS FALSE NEIGHBOUR: 'it returns false'. Refute it at one input. -/
def graphJoinsWrong : ChangeSpec := { name := "graphJoins", fn := fun _ => fun
  | [d1, d2, d3] => { results := [.lit (.bool false)], args := [d1, d2, d3] }
  | _ => none }
def GraphJoinsWrongFalsely : Prop := graphJoinsRow.holds Try.pinned (OpenSpec.ofChange graphJoinsWrong)

/-- 'tenetlaw02.GraphExplains': WHATEVER THE INPUT: true; the input reads as it did. -/
def graphExplainsSpec : ChangeSpec := { name := "graphExplains", fn := fun _ => fun
  | [d1, d2] => { results := [.lit (.bool true)], args := [d1, d2] }
  | _ => none }
def graphExplainsRow : OpenClaim := { program := "ytegejpcglabhbaa", sum := "f13d5afad5af38a8fca2154d8a46bf4df6136b2eaa4d744ce342fcbf455d0802", func := "tenet/tenetlaw02.GraphExplains", spec := "graphExplains", unfollowed := true, recurses := true, apart := false }
def GraphExplainsSaid : Prop := graphExplainsRow.holds Try.pinned (OpenSpec.ofChange graphExplainsSpec)

/-- ITS FALSE NEIGHBOUR: 'it returns false'. Refute it at one input. -/
def graphExplainsWrong : ChangeSpec := { name := "graphExplains", fn := fun _ => fun
  | [d1, d2] => { results := [.lit (.bool false)], args := [d1, d2] }
  | _ => none }
def GraphExplainsWrongFalsely : Prop := graphExplainsRow.holds Try.pinned (OpenSpec.ofChange graphExplainsWrong)

/-- 'tenetlaw02.GraphCircles': WHATEVER THE INPUT: true; the input reads as it did. -/
def graphCirclesSpec : ChangeSpec := { name := "graphCircles", fn := fun _ => fun
  | [d1, d2] => { results := [.lit (.bool true)], args := [d1, d2] }
  | _ => none }
def graphCirclesRow : OpenClaim := { program := "ytegejpcglabhbaa", sum := "f13d5afad5af38a8fca2154d8a46bf4df6136b2eaa4d744ce342fcbf455d0802", func := "tenet/tenetlaw02.GraphCircles", spec := "graphCircles", unfollowed := true, recurses := true, apart := false }
def GraphCirclesSaid : Prop := graphCirclesRow.holds Try.pinned (OpenSpec.ofChange graphCirclesSpec)

/-- ITS FALSE NEIGHBOUR: 'it returns false'. Refute it at one input. -/
def graphCirclesWrong : ChangeSpec := { name := "graphCircles", fn := fun _ => fun
  | [d1, d2] => { results := [.lit (.bool false)], args := [d1, d2] }
  | _ => none }
def GraphCirclesWrongFalsely : Prop := graphCirclesRow.holds Try.pinned (OpenSpec.ofChange graphCirclesWrong)

/-- 'tenettop.TopLevels': WHATEVER THE INPUT: true; the input reads as it did. -/
def topLevelsSpec : ChangeSpec := { name := "topLevels", fn := fun _ => fun
  | [d1, d2, d3] => { results := [.lit (.bool true)], args := [d1, d2, d3] }
  | _ => none }
def topLevelsRow : OpenClaim := { program := "ytegejpcglabhbaa", sum := "f13d5afad5af38a8fca2154d8a46bf4df6136b2eaa4d744ce342fcbf455d0802", func := "tenet/tenettop.TopLevels", spec := "topLevels", unfollowed := true, recurses := true, apart := false }
def TopLevelsSaid : Prop := topLevelsRow.holds Try.pinned (OpenSpec.ofChange topLevelsSpec)

/-- ITS FALSE NEIGHBOUR: 'it returns false'. Refute it at one input. -/
def topLevelsWrong : ChangeSpec := { name := "topLevels", fn := fun _ => fun
  | [d1, d2, d3] => { results := [.lit (.bool false)], args := [d1, d2, d3] }
  | _ => none }
def TopLevelsWrongFalsely : Prop := topLevelsRow.holds Try.pinned (OpenSpec.ofChange topLevelsWrong)

/- THE SECOND FORM. 'bulk': how many values and letters a reading holds, each counted each time it is reached (what is shared counts as often as it is met; a slice's spare places count too). A statement '..UptoSaid' is the law's where the arguments, and the package variables that the reading takes, are together of bulk at most 1048576: NARROWER than '..Said'. Prove '..Said' where nothing that the law and all that it calls make is longer than what came in: it says more and counts as full. Else prove '..UptoSaid'. A law counts once. -/
mutual
def uptoBulk {H : Type} : DataW H → Nat
  | .lit (.string bytes) => bytes.length + 1
  | .lit _ => 1
  | .nil => 1
  | .ptr d => uptoBulk d + 1
  | .slice elems spare => uptoBulkAll elems + uptoBulkAll spare + 1
  | .agg parts => uptoBulkAll parts + 1
  | .iface _ d => uptoBulk d + 1
  | .map entries => uptoBulkEntries entries + 1
  | .held _ => 1
def uptoBulkAll {H : Type} : List (DataW H) → Nat
  | [] => 0
  | d :: r => uptoBulk d + uptoBulkAll r
def uptoBulkEntries {H : Type} : List (Lit × DataW H) → Nat
  | [] => 0
  | x :: r => uptoBulkEntry x + uptoBulkEntries r
def uptoBulkEntry {H : Type} : Lit × DataW H → Nat
  | (.string bytes, d) => bytes.length + uptoBulk d + 1
  | (_, d) => uptoBulk d + 1
 end
def uptoSmall : (H : Type) → List (DataW H) → Bool := fun _ ds => decide (uptoBulkAll ds ≤ 1048576)
def OpenSpec.upto (s : _root_.Go.ChangeSpec) : _root_.Go.OpenSpec := { _root_.Go.OpenSpec.ofChange s with cond := some uptoSmall }

/-- 'tenetlaw02.GraphSolves', WHERE WHAT IT READS IS OF BULK AT MOST 1048576: true; the input reads as it did. -/
def graphSolvesUptoRow : OpenClaim := { program := "ytegejpcglabhbaa", sum := "f13d5afad5af38a8fca2154d8a46bf4df6136b2eaa4d744ce342fcbf455d0802", func := "tenet/tenetlaw02.GraphSolves", spec := "graphSolves", unfollowed := true, recurses := true, apart := false, narrowed := true }
def GraphSolvesUptoSaid : Prop := graphSolvesUptoRow.holds Try.pinned (OpenSpec.upto graphSolvesSpec)

/-- 'tenetlaw02.GraphHolds', WHERE WHAT IT READS IS OF BULK AT MOST 1048576: true; the input reads as it did. -/
def graphHoldsUptoRow : OpenClaim := { program := "ytegejpcglabhbaa", sum := "f13d5afad5af38a8fca2154d8a46bf4df6136b2eaa4d744ce342fcbf455d0802", func := "tenet/tenetlaw02.GraphHolds", spec := "graphHolds", unfollowed := true, recurses := true, apart := false, narrowed := true }
def GraphHoldsUptoSaid : Prop := graphHoldsUptoRow.holds Try.pinned (OpenSpec.upto graphHoldsSpec)

/-- 'tenetlaw02.GraphLeast', WHERE WHAT IT READS IS OF BULK AT MOST 1048576: true; the input reads as it did. -/
def graphLeastUptoRow : OpenClaim := { program := "ytegejpcglabhbaa", sum := "f13d5afad5af38a8fca2154d8a46bf4df6136b2eaa4d744ce342fcbf455d0802", func := "tenet/tenetlaw02.GraphLeast", spec := "graphLeast", unfollowed := true, recurses := true, apart := false, narrowed := true }
def GraphLeastUptoSaid : Prop := graphLeastUptoRow.holds Try.pinned (OpenSpec.upto graphLeastSpec)

/-- 'tenetlaw02.GraphBounds', WHERE WHAT IT READS IS OF BULK AT MOST 1048576: true; the input reads as it did. -/
def graphBoundsUptoRow : OpenClaim := { program := "ytegejpcglabhbaa", sum := "f13d5afad5af38a8fca2154d8a46bf4df6136b2eaa4d744ce342fcbf455d0802", func := "tenet/tenetlaw02.GraphBounds", spec := "graphBounds", unfollowed := true, recurses := true, apart := false, narrowed := true }
def GraphBoundsUptoSaid : Prop := graphBoundsUptoRow.holds Try.pinned (OpenSpec.upto graphBoundsSpec)

/-- 'tenetlaw02.GraphReaches', WHERE WHAT IT READS IS OF BULK AT MOST 1048576: true; the input reads as it did. -/
def graphReachesUptoRow : OpenClaim := { program := "ytegejpcglabhbaa", sum := "f13d5afad5af38a8fca2154d8a46bf4df6136b2eaa4d744ce342fcbf455d0802", func := "tenet/tenetlaw02.GraphReaches", spec := "graphReaches", unfollowed := true, recurses := true, apart := false, narrowed := true }
def GraphReachesUptoSaid : Prop := graphReachesUptoRow.holds Try.pinned (OpenSpec.upto graphReachesSpec)

/-- 'tenetlaw02.GraphFollows', WHERE WHAT IT READS IS OF BULK AT MOST 1048576: true; the input reads as it did. -/
def graphFollowsUptoRow : OpenClaim := { program := "ytegejpcglabhbaa", sum := "f13d5afad5af38a8fca2154d8a46bf4df6136b2eaa4d744ce342fcbf455d0802", func := "tenet/tenetlaw02.GraphFollows", spec := "graphFollows", unfollowed := true, recurses := true, apart := false, narrowed := true }
def GraphFollowsUptoSaid : Prop := graphFollowsUptoRow.holds Try.pinned (OpenSpec.upto graphFollowsSpec)

/-- 'tenetlaw02.GraphChains', WHERE WHAT IT READS IS OF BULK AT MOST 1048576: true; the input reads as it did. -/
def graphChainsUptoRow : OpenClaim := { program := "ytegejpcglabhbaa", sum := "f13d5afad5af38a8fca2154d8a46bf4df6136b2eaa4d744ce342fcbf455d0802", func := "tenet/tenetlaw02.GraphChains", spec := "graphChains", unfollowed := true, recurses := true, apart := false, narrowed := true }
def GraphChainsUptoSaid : Prop := graphChainsUptoRow.holds Try.pinned (OpenSpec.upto graphChainsSpec)

/-- 'tenetlaw02.GraphMore', WHERE WHAT IT READS IS OF BULK AT MOST 1048576: true; the input reads as it did. -/
def graphMoreUptoRow : OpenClaim := { program := "ytegejpcglabhbaa", sum := "f13d5afad5af38a8fca2154d8a46bf4df6136b2eaa4d744ce342fcbf455d0802", func := "tenet/tenetlaw02.GraphMore", spec := "graphMore", unfollowed := true, recurses := true, apart := false, narrowed := true }
def GraphMoreUptoSaid : Prop := graphMoreUptoRow.holds Try.pinned (OpenSpec.upto graphMoreSpec)

/-- 'tenetlaw02.GraphMinimal', WHERE WHAT IT READS IS OF BULK AT MOST 1048576: true; the input reads as it did. -/
def graphMinimalUptoRow : OpenClaim := { program := "ytegejpcglabhbaa", sum := "f13d5afad5af38a8fca2154d8a46bf4df6136b2eaa4d744ce342fcbf455d0802", func := "tenet/tenetlaw02.GraphMinimal", spec := "graphMinimal", unfollowed := true, recurses := true, apart := false, narrowed := true }
def GraphMinimalUptoSaid : Prop := graphMinimalUptoRow.holds Try.pinned (OpenSpec.upto graphMinimalSpec)

/-- 'tenetlaw02.GraphKeeps', WHERE WHAT IT READS IS OF BULK AT MOST 1048576: true; the input reads as it did. -/
def graphKeepsUptoRow : OpenClaim := { program := "ytegejpcglabhbaa", sum := "f13d5afad5af38a8fca2154d8a46bf4df6136b2eaa4d744ce342fcbf455d0802", func := "tenet/tenetlaw02.GraphKeeps", spec := "graphKeeps", unfollowed := true, recurses := true, apart := false, narrowed := true }
def GraphKeepsUptoSaid : Prop := graphKeepsUptoRow.holds Try.pinned (OpenSpec.upto graphKeepsSpec)

/-- 'tenetlaw02.GraphClasses', WHERE WHAT IT READS IS OF BULK AT MOST 1048576: true; the input reads as it did. -/
def graphClassesUptoRow : OpenClaim := { program := "ytegejpcglabhbaa", sum := "f13d5afad5af38a8fca2154d8a46bf4df6136b2eaa4d744ce342fcbf455d0802", func := "tenet/tenetlaw02.GraphClasses", spec := "graphClasses", unfollowed := true, recurses := true, apart := false, narrowed := true }
def GraphClassesUptoSaid : Prop := graphClassesUptoRow.holds Try.pinned (OpenSpec.upto graphClassesSpec)

/-- 'tenetlaw02.GraphPairs', WHERE WHAT IT READS IS OF BULK AT MOST 1048576: true; the input reads as it did. -/
def graphPairsUptoRow : OpenClaim := { program := "ytegejpcglabhbaa", sum := "f13d5afad5af38a8fca2154d8a46bf4df6136b2eaa4d744ce342fcbf455d0802", func := "tenet/tenetlaw02.GraphPairs", spec := "graphPairs", unfollowed := true, recurses := true, apart := false, narrowed := true }
def GraphPairsUptoSaid : Prop := graphPairsUptoRow.holds Try.pinned (OpenSpec.upto graphPairsSpec)

/-- 'tenetlaw02.GraphExtends', WHERE WHAT IT READS IS OF BULK AT MOST 1048576: true; the input reads as it did. -/
def graphExtendsUptoRow : OpenClaim := { program := "ytegejpcglabhbaa", sum := "f13d5afad5af38a8fca2154d8a46bf4df6136b2eaa4d744ce342fcbf455d0802", func := "tenet/tenetlaw02.GraphExtends", spec := "graphExtends", unfollowed := true, recurses := true, apart := false, narrowed := true }
def GraphExtendsUptoSaid : Prop := graphExtendsUptoRow.holds Try.pinned (OpenSpec.upto graphExtendsSpec)

/-- 'tenetlaw02.GraphJoins', WHERE WHAT IT READS IS OF BULK AT MOST 1048576: true; the input reads as it did. -/
def graphJoinsUptoRow : OpenClaim := { program := "ytegejpcglabhbaa", sum := "f13d5afad5af38a8fca2154d8a46bf4df6136b2eaa4d744ce342fcbf455d0802", func := "tenet/tenetlaw02.GraphJoins", spec := "graphJoins", unfollowed := true, recurses := true, apart := false, narrowed := true }
def GraphJoinsUptoSaid : Prop := graphJoinsUptoRow.holds Try.pinned (OpenSpec.upto graphJoinsSpec)

/-- 'tenetlaw02.GraphExplains', WHERE WHAT IT READS IS OF BULK AT MOST 1048576: true; the input reads as it did. -/
def graphExplainsUptoRow : OpenClaim := { program := "ytegejpcglabhbaa", sum := "f13d5afad5af38a8fca2154d8a46bf4df6136b2eaa4d744ce342fcbf455d0802", func := "tenet/tenetlaw02.GraphExplains", spec := "graphExplains", unfollowed := true, recurses := true, apart := false, narrowed := true }
def GraphExplainsUptoSaid : Prop := graphExplainsUptoRow.holds Try.pinned (OpenSpec.upto graphExplainsSpec)

/-- 'tenetlaw02.GraphCircles', WHERE WHAT IT READS IS OF BULK AT MOST 1048576: true; the input reads as it did. -/
def graphCirclesUptoRow : OpenClaim := { program := "ytegejpcglabhbaa", sum := "f13d5afad5af38a8fca2154d8a46bf4df6136b2eaa4d744ce342fcbf455d0802", func := "tenet/tenetlaw02.GraphCircles", spec := "graphCircles", unfollowed := true, recurses := true, apart := false, narrowed := true }
def GraphCirclesUptoSaid : Prop := graphCirclesUptoRow.holds Try.pinned (OpenSpec.upto graphCirclesSpec)

/-- 'tenettop.TopLevels', WHERE WHAT IT READS IS OF BULK AT MOST 1048576: true; the input reads as it did. -/
def topLevelsUptoRow : OpenClaim := { program := "ytegejpcglabhbaa", sum := "f13d5afad5af38a8fca2154d8a46bf4df6136b2eaa4d744ce342fcbf455d0802", func := "tenet/tenettop.TopLevels", spec := "topLevels", unfollowed := true, recurses := true, apart := false, narrowed := true }
def TopLevelsUptoSaid : Prop := topLevelsUptoRow.holds Try.pinned (OpenSpec.upto topLevelsSpec)

end Rows
end Go.Proofs.Ytegejpcglabhbaa
