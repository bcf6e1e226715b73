/-
  NARROWER THAN 'FOR EVERY INPUT', by the rows' own cells (each row's printed sentence says how): RingEquals: loops · RingKeeps: loops · RingEvals: loops · RingDiffers: loops · RingApplies: loops · RingFollows: loops · RingNormals: loops · RingProves: loops · RingBack: loops · RingUndoes: loops.
  DERIVED. THE GIVEN ROWS OF THIS SEAT. 12 by the template 'for every input the law returns true; each argument reads behind the call as it read before'; 0 by the template 'total and deterministic' (their statements: YtlidibbdacohaaaTotals.lean).
  GIVEN WITH THE SEED: the statements are not yours to turn. If you find one false, say at which input.
  Laid BY PROGRAM, IN A SANDBOX (cutbox-rows.mjs): the forced cells as the released guide's own fill.sh prints them over the translation f6b3af2bfafb3912… (all of the seat's roots in one cut). By AI agents, Wed Nov 11 2026. No macro, syntax, notation, axiom, sorry.
-/
import Derived.Test.YtlidibbdacohaaaChecked
import GoSem.Claim
import GoSem.ClaimJoined
import GoSem.ClaimMapViews
import Derived.JoinedTies
import Derived.KernelRfl
namespace Go.Proofs.Ytlidibbdacohaaa
/- THE CELL 'sum', in the pinned program and in every row, IS THE sha256 OF THE DUMP (.gsa) THAT YtlidibbdacohaaaProg.lean LOADS. Nothing in Lean hashes anything: it is a label: what it is worth is what the hold of that sum in a sandbox is worth. -/
noncomputable def Try.pinned : Pinned := { name := "ytlidibbdacohaaa", sum := "f6b3af2bfafb3912e9eb353170b0a53c94638ece203ffe8071e030da53e4d527", checked := Try.checked }
namespace Rows
def none {H : Type} : Left H := { results := [], args := [] }

/-- 'tenetlaw24.RingEquals': WHATEVER THE INPUT: true; the input reads as it did. -/
def ringEqualsSpec : ChangeSpec := { name := "ringEquals", fn := fun _ => fun
  | [d1, d2] => { results := [.lit (.bool true)], args := [d1, d2] }
  | _ => none }
def ringEqualsRow : OpenClaim := { program := "ytlidibbdacohaaa", sum := "f6b3af2bfafb3912e9eb353170b0a53c94638ece203ffe8071e030da53e4d527", func := "tenet/tenetlaw24.RingEquals", spec := "ringEquals", unfollowed := true, recurses := true, loops := true, plainKeys := false, apart := false }
def RingEqualsSaid : Prop := ringEqualsRow.holds Try.pinned (OpenSpec.ofChange ringEqualsSpec)

/-- ITS FALSE NEIGHBOUR: 'it returns false'. Refute it at one input. -/
def ringEqualsWrong : ChangeSpec := { name := "ringEquals", fn := fun _ => fun
  | [d1, d2] => { results := [.lit (.bool false)], args := [d1, d2] }
  | _ => none }
def RingEqualsWrongFalsely : Prop := ringEqualsRow.holds Try.pinned (OpenSpec.ofChange ringEqualsWrong)

/-- 'tenetlaw24.RingKeeps': WHATEVER THE INPUT: true; the input reads as it did. -/
def ringKeepsSpec : ChangeSpec := { name := "ringKeeps", fn := fun _ => fun
  | [d1, d2, d3] => { results := [.lit (.bool true)], args := [d1, d2, d3] }
  | _ => none }
def ringKeepsRow : OpenClaim := { program := "ytlidibbdacohaaa", sum := "f6b3af2bfafb3912e9eb353170b0a53c94638ece203ffe8071e030da53e4d527", func := "tenet/tenetlaw24.RingKeeps", spec := "ringKeeps", unfollowed := true, recurses := true, loops := true, plainKeys := false, apart := false }
def RingKeepsSaid : Prop := ringKeepsRow.holds Try.pinned (OpenSpec.ofChange ringKeepsSpec)

/-- ITS FALSE NEIGHBOUR: 'it returns false'. Refute it at one input. -/
def ringKeepsWrong : ChangeSpec := { name := "ringKeeps", fn := fun _ => fun
  | [d1, d2, d3] => { results := [.lit (.bool false)], args := [d1, d2, d3] }
  | _ => none }
def RingKeepsWrongFalsely : Prop := ringKeepsRow.holds Try.pinned (OpenSpec.ofChange ringKeepsWrong)

/-- 'tenetlaw24.RingEvals': WHATEVER THE INPUT: true; the input reads as it did. -/
def ringEvalsSpec : ChangeSpec := { name := "ringEvals", fn := fun _ => fun
  | [d1, d2] => { results := [.lit (.bool true)], args := [d1, d2] }
  | _ => none }
def ringEvalsRow : OpenClaim := { program := "ytlidibbdacohaaa", sum := "f6b3af2bfafb3912e9eb353170b0a53c94638ece203ffe8071e030da53e4d527", func := "tenet/tenetlaw24.RingEvals", spec := "ringEvals", unfollowed := true, recurses := true, loops := true, plainKeys := false, apart := false }
def RingEvalsSaid : Prop := ringEvalsRow.holds Try.pinned (OpenSpec.ofChange ringEvalsSpec)

/-- ITS FALSE NEIGHBOUR: 'it returns false'. Refute it at one input. -/
def ringEvalsWrong : ChangeSpec := { name := "ringEvals", fn := fun _ => fun
  | [d1, d2] => { results := [.lit (.bool false)], args := [d1, d2] }
  | _ => none }
def RingEvalsWrongFalsely : Prop := ringEvalsRow.holds Try.pinned (OpenSpec.ofChange ringEvalsWrong)

/-- 'tenetlaw24.RingBuilds': WHATEVER THE INPUT: true; the input reads as it did. -/
def ringBuildsSpec : ChangeSpec := { name := "ringBuilds", fn := fun _ => fun
  | [d] => { results := [.lit (.bool true)], args := [d] }
  | _ => none }
def ringBuildsRow : OpenClaim := { program := "ytlidibbdacohaaa", sum := "f6b3af2bfafb3912e9eb353170b0a53c94638ece203ffe8071e030da53e4d527", func := "tenet/tenetlaw24.RingBuilds", spec := "ringBuilds", unfollowed := true, recurses := true, plainKeys := false, apart := false }
def RingBuildsSaid : Prop := ringBuildsRow.holds Try.pinned (OpenSpec.ofChange ringBuildsSpec)

/-- ITS FALSE NEIGHBOUR: 'it returns false'. Refute it at one input. -/
def ringBuildsWrong : ChangeSpec := { name := "ringBuilds", fn := fun _ => fun
  | [d] => { results := [.lit (.bool false)], args := [d] }
  | _ => none }
def RingBuildsWrongFalsely : Prop := ringBuildsRow.holds Try.pinned (OpenSpec.ofChange ringBuildsWrong)

/-- 'tenetlaw24.RingDiffers': WHATEVER THE INPUT: true; the input reads as it did. -/
def ringDiffersSpec : ChangeSpec := { name := "ringDiffers", fn := fun _ => fun
  | [d1, d2] => { results := [.lit (.bool true)], args := [d1, d2] }
  | _ => none }
def ringDiffersRow : OpenClaim := { program := "ytlidibbdacohaaa", sum := "f6b3af2bfafb3912e9eb353170b0a53c94638ece203ffe8071e030da53e4d527", func := "tenet/tenetlaw24.RingDiffers", spec := "ringDiffers", unfollowed := true, recurses := true, named := ["math/bits.divideError", "math/bits.overflowError"], loops := true, plainKeys := false, apart := false }
def RingDiffersSaid : Prop := ringDiffersRow.holds Try.pinned (OpenSpec.ofChange ringDiffersSpec)

/-- ITS FALSE NEIGHBOUR: 'it returns false'. Refute it at one input. -/
def ringDiffersWrong : ChangeSpec := { name := "ringDiffers", fn := fun _ => fun
  | [d1, d2] => { results := [.lit (.bool false)], args := [d1, d2] }
  | _ => none }
def RingDiffersWrongFalsely : Prop := ringDiffersRow.holds Try.pinned (OpenSpec.ofChange ringDiffersWrong)

/-- 'tenetlaw24.RingApplies': WHATEVER THE INPUT: true; the input reads as it did. -/
def ringAppliesSpec : ChangeSpec := { name := "ringApplies", fn := fun _ => fun
  | [d1, d2] => { results := [.lit (.bool true)], args := [d1, d2] }
  | _ => none }
def ringAppliesRow : OpenClaim := { program := "ytlidibbdacohaaa", sum := "f6b3af2bfafb3912e9eb353170b0a53c94638ece203ffe8071e030da53e4d527", func := "tenet/tenetlaw24.RingApplies", spec := "ringApplies", unfollowed := true, recurses := true, loops := true, plainKeys := false, apart := false }
def RingAppliesSaid : Prop := ringAppliesRow.holds Try.pinned (OpenSpec.ofChange ringAppliesSpec)

/-- ITS FALSE NEIGHBOUR: 'it returns false'. Refute it at one input. -/
def ringAppliesWrong : ChangeSpec := { name := "ringApplies", fn := fun _ => fun
  | [d1, d2] => { results := [.lit (.bool false)], args := [d1, d2] }
  | _ => none }
def RingAppliesWrongFalsely : Prop := ringAppliesRow.holds Try.pinned (OpenSpec.ofChange ringAppliesWrong)

/-- 'tenetlaw24.RingFollows': WHATEVER THE INPUT: true; the input reads as it did. -/
def ringFollowsSpec : ChangeSpec := { name := "ringFollows", fn := fun _ => fun
  | [d1, d2] => { results := [.lit (.bool true)], args := [d1, d2] }
  | _ => none }
def ringFollowsRow : OpenClaim := { program := "ytlidibbdacohaaa", sum := "f6b3af2bfafb3912e9eb353170b0a53c94638ece203ffe8071e030da53e4d527", func := "tenet/tenetlaw24.RingFollows", spec := "ringFollows", unfollowed := true, recurses := true, loops := true, plainKeys := false, apart := false }
def RingFollowsSaid : Prop := ringFollowsRow.holds Try.pinned (OpenSpec.ofChange ringFollowsSpec)

/-- ITS FALSE NEIGHBOUR: 'it returns false'. Refute it at one input. -/
def ringFollowsWrong : ChangeSpec := { name := "ringFollows", fn := fun _ => fun
  | [d1, d2] => { results := [.lit (.bool false)], args := [d1, d2] }
  | _ => none }
def RingFollowsWrongFalsely : Prop := ringFollowsRow.holds Try.pinned (OpenSpec.ofChange ringFollowsWrong)

/-- 'tenetlaw24.RingNormals': WHATEVER THE INPUT: true; the input reads as it did. -/
def ringNormalsSpec : ChangeSpec := { name := "ringNormals", fn := fun _ => fun
  | [d] => { results := [.lit (.bool true)], args := [d] }
  | _ => none }
def ringNormalsRow : OpenClaim := { program := "ytlidibbdacohaaa", sum := "f6b3af2bfafb3912e9eb353170b0a53c94638ece203ffe8071e030da53e4d527", func := "tenet/tenetlaw24.RingNormals", spec := "ringNormals", unfollowed := true, recurses := true, loops := true, plainKeys := false, apart := false }
def RingNormalsSaid : Prop := ringNormalsRow.holds Try.pinned (OpenSpec.ofChange ringNormalsSpec)

/-- ITS FALSE NEIGHBOUR: 'it returns false'. Refute it at one input. -/
def ringNormalsWrong : ChangeSpec := { name := "ringNormals", fn := fun _ => fun
  | [d] => { results := [.lit (.bool false)], args := [d] }
  | _ => none }
def RingNormalsWrongFalsely : Prop := ringNormalsRow.holds Try.pinned (OpenSpec.ofChange ringNormalsWrong)

/-- 'tenetlaw24.RingAdds': WHATEVER THE INPUT: true; the input reads as it did. -/
def ringAddsSpec : ChangeSpec := { name := "ringAdds", fn := fun _ => fun
  | [d1, d2] => { results := [.lit (.bool true)], args := [d1, d2] }
  | _ => none }
def ringAddsRow : OpenClaim := { program := "ytlidibbdacohaaa", sum := "f6b3af2bfafb3912e9eb353170b0a53c94638ece203ffe8071e030da53e4d527", func := "tenet/tenetlaw24.RingAdds", spec := "ringAdds", unfollowed := true, recurses := true, plainKeys := false, apart := false }
def RingAddsSaid : Prop := ringAddsRow.holds Try.pinned (OpenSpec.ofChange ringAddsSpec)

/-- ITS FALSE NEIGHBOUR: 'it returns false'. Refute it at one input. -/
def ringAddsWrong : ChangeSpec := { name := "ringAdds", fn := fun _ => fun
  | [d1, d2] => { results := [.lit (.bool false)], args := [d1, d2] }
  | _ => none }
def RingAddsWrongFalsely : Prop := ringAddsRow.holds Try.pinned (OpenSpec.ofChange ringAddsWrong)

/-- 'tenetlaw24.RingProves': WHATEVER THE INPUT: true; the input reads as it did. -/
def ringProvesSpec : ChangeSpec := { name := "ringProves", fn := fun _ => fun
  | [d1, d2] => { results := [.lit (.bool true)], args := [d1, d2] }
  | _ => none }
def ringProvesRow : OpenClaim := { program := "ytlidibbdacohaaa", sum := "f6b3af2bfafb3912e9eb353170b0a53c94638ece203ffe8071e030da53e4d527", func := "tenet/tenetlaw24.RingProves", spec := "ringProves", unfollowed := true, recurses := true, loops := true, plainKeys := false, apart := false }
def RingProvesSaid : Prop := ringProvesRow.holds Try.pinned (OpenSpec.ofChange ringProvesSpec)

/-- ITS FALSE NEIGHBOUR: 'it returns false'. Refute it at one input. -/
def ringProvesWrong : ChangeSpec := { name := "ringProves", fn := fun _ => fun
  | [d1, d2] => { results := [.lit (.bool false)], args := [d1, d2] }
  | _ => none }
def RingProvesWrongFalsely : Prop := ringProvesRow.holds Try.pinned (OpenSpec.ofChange ringProvesWrong)

/-- 'tenetlaw24.RingBack': WHATEVER THE INPUT: true; the input reads as it did. -/
def ringBackSpec : ChangeSpec := { name := "ringBack", fn := fun _ => fun
  | [d1, d2, d3] => { results := [.lit (.bool true)], args := [d1, d2, d3] }
  | _ => none }
def ringBackRow : OpenClaim := { program := "ytlidibbdacohaaa", sum := "f6b3af2bfafb3912e9eb353170b0a53c94638ece203ffe8071e030da53e4d527", func := "tenet/tenetlaw24.RingBack", spec := "ringBack", unfollowed := true, recurses := true, loops := true, plainKeys := false, apart := false }
def RingBackSaid : Prop := ringBackRow.holds Try.pinned (OpenSpec.ofChange ringBackSpec)

/-- ITS FALSE NEIGHBOUR: 'it returns false'. Refute it at one input. -/
def ringBackWrong : ChangeSpec := { name := "ringBack", fn := fun _ => fun
  | [d1, d2, d3] => { results := [.lit (.bool false)], args := [d1, d2, d3] }
  | _ => none }
def RingBackWrongFalsely : Prop := ringBackRow.holds Try.pinned (OpenSpec.ofChange ringBackWrong)

/-- 'tenetlaw24.RingUndoes': WHATEVER THE INPUT: true; the input reads as it did. -/
def ringUndoesSpec : ChangeSpec := { name := "ringUndoes", fn := fun _ => fun
  | [d1, d2] => { results := [.lit (.bool true)], args := [d1, d2] }
  | _ => none }
def ringUndoesRow : OpenClaim := { program := "ytlidibbdacohaaa", sum := "f6b3af2bfafb3912e9eb353170b0a53c94638ece203ffe8071e030da53e4d527", func := "tenet/tenetlaw24.RingUndoes", spec := "ringUndoes", unfollowed := true, recurses := true, loops := true, plainKeys := false, apart := false }
def RingUndoesSaid : Prop := ringUndoesRow.holds Try.pinned (OpenSpec.ofChange ringUndoesSpec)

/-- ITS FALSE NEIGHBOUR: 'it returns false'. Refute it at one input. -/
def ringUndoesWrong : ChangeSpec := { name := "ringUndoes", fn := fun _ => fun
  | [d1, d2] => { results := [.lit (.bool false)], args := [d1, d2] }
  | _ => none }
def RingUndoesWrongFalsely : Prop := ringUndoesRow.holds Try.pinned (OpenSpec.ofChange ringUndoesWrong)

/- THE SECOND FORM. 'bulk': how many values and letters a reading holds, each counted each time it is reached (what is shared counts as often as it is met; a slice's spare places count too). A statement '..UptoSaid' is the law's where the arguments, and the package variables that the reading takes, are together of bulk at most 1048576: NARROWER than '..Said'. Prove '..Said' where nothing that the law and all that it calls make is longer than what came in: it says more and counts as full. Else prove '..UptoSaid'. A law counts once. -/
mutual
def uptoBulk {H : Type} : DataW H → Nat
  | .lit (.string bytes) => bytes.length + 1
  | .lit _ => 1
  | .nil => 1
  | .ptr d => uptoBulk d + 1
  | .slice elems spare => uptoBulkAll elems + uptoBulkAll spare + 1
  | .agg parts => uptoBulkAll parts + 1
  | .iface _ d => uptoBulk d + 1
  | .map entries => uptoBulkEntries entries + 1
  | .held _ => 1
def uptoBulkAll {H : Type} : List (DataW H) → Nat
  | [] => 0
  | d :: r => uptoBulk d + uptoBulkAll r
def uptoBulkEntries {H : Type} : List (Lit × DataW H) → Nat
  | [] => 0
  | x :: r => uptoBulkEntry x + uptoBulkEntries r
def uptoBulkEntry {H : Type} : Lit × DataW H → Nat
  | (.string bytes, d) => bytes.length + uptoBulk d + 1
  | (_, d) => uptoBulk d + 1
 end
def uptoSmall : (H : Type) → List (DataW H) → Bool := fun _ ds => decide (uptoBulkAll ds ≤ 1048576)
def OpenSpec.upto (s : _root_.Go.ChangeSpec) : _root_.Go.OpenSpec := { _root_.Go.OpenSpec.ofChange s with cond := some uptoSmall }

/-- 'tenetlaw24.RingEquals', WHERE WHAT IT READS IS OF BULK AT MOST 1048576: true; the input reads as it did. -/
def ringEqualsUptoRow : OpenClaim := { program := "ytlidibbdacohaaa", sum := "f6b3af2bfafb3912e9eb353170b0a53c94638ece203ffe8071e030da53e4d527", func := "tenet/tenetlaw24.RingEquals", spec := "ringEquals", unfollowed := true, recurses := true, loops := true, plainKeys := false, apart := false, narrowed := true }
def RingEqualsUptoSaid : Prop := ringEqualsUptoRow.holds Try.pinned (OpenSpec.upto ringEqualsSpec)

/-- 'tenetlaw24.RingKeeps', WHERE WHAT IT READS IS OF BULK AT MOST 1048576: true; the input reads as it did. -/
def ringKeepsUptoRow : OpenClaim := { program := "ytlidibbdacohaaa", sum := "f6b3af2bfafb3912e9eb353170b0a53c94638ece203ffe8071e030da53e4d527", func := "tenet/tenetlaw24.RingKeeps", spec := "ringKeeps", unfollowed := true, recurses := true, loops := true, plainKeys := false, apart := false, narrowed := true }
def RingKeepsUptoSaid : Prop := ringKeepsUptoRow.holds Try.pinned (OpenSpec.upto ringKeepsSpec)

/-- 'tenetlaw24.RingEvals', WHERE WHAT IT READS IS OF BULK AT MOST 1048576: true; the input reads as it did. -/
def ringEvalsUptoRow : OpenClaim := { program := "ytlidibbdacohaaa", sum := "f6b3af2bfafb3912e9eb353170b0a53c94638ece203ffe8071e030da53e4d527", func := "tenet/tenetlaw24.RingEvals", spec := "ringEvals", unfollowed := true, recurses := true, loops := true, plainKeys := false, apart := false, narrowed := true }
def RingEvalsUptoSaid : Prop := ringEvalsUptoRow.holds Try.pinned (OpenSpec.upto ringEvalsSpec)

/-- 'tenetlaw24.RingBuilds', WHERE WHAT IT READS IS OF BULK AT MOST 1048576: true; the input reads as it did. -/
def ringBuildsUptoRow : OpenClaim := { program := "ytlidibbdacohaaa", sum := "f6b3af2bfafb3912e9eb353170b0a53c94638ece203ffe8071e030da53e4d527", func := "tenet/tenetlaw24.RingBuilds", spec := "ringBuilds", unfollowed := true, recurses := true, plainKeys := false, apart := false, narrowed := true }
def RingBuildsUptoSaid : Prop := ringBuildsUptoRow.holds Try.pinned (OpenSpec.upto ringBuildsSpec)

/-- 'tenetlaw24.RingDiffers', WHERE WHAT IT READS IS OF BULK AT MOST 1048576: true; the input reads as it did. -/
def ringDiffersUptoRow : OpenClaim := { program := "ytlidibbdacohaaa", sum := "f6b3af2bfafb3912e9eb353170b0a53c94638ece203ffe8071e030da53e4d527", func := "tenet/tenetlaw24.RingDiffers", spec := "ringDiffers", unfollowed := true, recurses := true, named := ["math/bits.divideError", "math/bits.overflowError"], loops := true, plainKeys := false, apart := false, narrowed := true }
def RingDiffersUptoSaid : Prop := ringDiffersUptoRow.holds Try.pinned (OpenSpec.upto ringDiffersSpec)

/-- 'tenetlaw24.RingApplies', WHERE WHAT IT READS IS OF BULK AT MOST 1048576: true; the input reads as it did. -/
def ringAppliesUptoRow : OpenClaim := { program := "ytlidibbdacohaaa", sum := "f6b3af2bfafb3912e9eb353170b0a53c94638ece203ffe8071e030da53e4d527", func := "tenet/tenetlaw24.RingApplies", spec := "ringApplies", unfollowed := true, recurses := true, loops := true, plainKeys := false, apart := false, narrowed := true }
def RingAppliesUptoSaid : Prop := ringAppliesUptoRow.holds Try.pinned (OpenSpec.upto ringAppliesSpec)

/-- 'tenetlaw24.RingFollows', WHERE WHAT IT READS IS OF BULK AT MOST 1048576: true; the input reads as it did. -/
def ringFollowsUptoRow : OpenClaim := { program := "ytlidibbdacohaaa", sum := "f6b3af2bfafb3912e9eb353170b0a53c94638ece203ffe8071e030da53e4d527", func := "tenet/tenetlaw24.RingFollows", spec := "ringFollows", unfollowed := true, recurses := true, loops := true, plainKeys := false, apart := false, narrowed := true }
def RingFollowsUptoSaid : Prop := ringFollowsUptoRow.holds Try.pinned (OpenSpec.upto ringFollowsSpec)

/-- 'tenetlaw24.RingNormals', WHERE WHAT IT READS IS OF BULK AT MOST 1048576: true; the input reads as it did. -/
def ringNormalsUptoRow : OpenClaim := { program := "ytlidibbdacohaaa", sum := "f6b3af2bfafb3912e9eb353170b0a53c94638ece203ffe8071e030da53e4d527", func := "tenet/tenetlaw24.RingNormals", spec := "ringNormals", unfollowed := true, recurses := true, loops := true, plainKeys := false, apart := false, narrowed := true }
def RingNormalsUptoSaid : Prop := ringNormalsUptoRow.holds Try.pinned (OpenSpec.upto ringNormalsSpec)

/-- 'tenetlaw24.RingAdds', WHERE WHAT IT READS IS OF BULK AT MOST 1048576: true; the input reads as it did. -/
def ringAddsUptoRow : OpenClaim := { program := "ytlidibbdacohaaa", sum := "f6b3af2bfafb3912e9eb353170b0a53c94638ece203ffe8071e030da53e4d527", func := "tenet/tenetlaw24.RingAdds", spec := "ringAdds", unfollowed := true, recurses := true, plainKeys := false, apart := false, narrowed := true }
def RingAddsUptoSaid : Prop := ringAddsUptoRow.holds Try.pinned (OpenSpec.upto ringAddsSpec)

/-- 'tenetlaw24.RingProves', WHERE WHAT IT READS IS OF BULK AT MOST 1048576: true; the input reads as it did. -/
def ringProvesUptoRow : OpenClaim := { program := "ytlidibbdacohaaa", sum := "f6b3af2bfafb3912e9eb353170b0a53c94638ece203ffe8071e030da53e4d527", func := "tenet/tenetlaw24.RingProves", spec := "ringProves", unfollowed := true, recurses := true, loops := true, plainKeys := false, apart := false, narrowed := true }
def RingProvesUptoSaid : Prop := ringProvesUptoRow.holds Try.pinned (OpenSpec.upto ringProvesSpec)

/-- 'tenetlaw24.RingBack', WHERE WHAT IT READS IS OF BULK AT MOST 1048576: true; the input reads as it did. -/
def ringBackUptoRow : OpenClaim := { program := "ytlidibbdacohaaa", sum := "f6b3af2bfafb3912e9eb353170b0a53c94638ece203ffe8071e030da53e4d527", func := "tenet/tenetlaw24.RingBack", spec := "ringBack", unfollowed := true, recurses := true, loops := true, plainKeys := false, apart := false, narrowed := true }
def RingBackUptoSaid : Prop := ringBackUptoRow.holds Try.pinned (OpenSpec.upto ringBackSpec)

/-- 'tenetlaw24.RingUndoes', WHERE WHAT IT READS IS OF BULK AT MOST 1048576: true; the input reads as it did. -/
def ringUndoesUptoRow : OpenClaim := { program := "ytlidibbdacohaaa", sum := "f6b3af2bfafb3912e9eb353170b0a53c94638ece203ffe8071e030da53e4d527", func := "tenet/tenetlaw24.RingUndoes", spec := "ringUndoes", unfollowed := true, recurses := true, loops := true, plainKeys := false, apart := false, narrowed := true }
def RingUndoesUptoSaid : Prop := ringUndoesUptoRow.holds Try.pinned (OpenSpec.upto ringUndoesSpec)

end Rows
end Go.Proofs.Ytlidibbdacohaaa
