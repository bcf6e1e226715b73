/-
  NARROWER THAN 'FOR EVERY INPUT', by the rows' own cells (each row's printed sentence says how): TopTerminates: loops.
  DERIVED. THE GIVEN ROWS OF THIS SEAT. 8 by the template 'for every input the law returns true; each argument reads behind the call as it read before'; 0 by the template 'total and deterministic' (their statements: YtiepinfcndefhaaTotals.lean).
  GIVEN WITH THE SEED: the statements are not yours to turn. If you find one false, say at which input.
  Laid BY PROGRAM, IN A SANDBOX (cutbox-rows.mjs): the forced cells as the released guide's own fill.sh prints them over the translation 7038a6d6b2e49fdf… (all of the seat's roots in one cut). By AI agents, Wed Nov 11 2026. No macro, syntax, notation, axiom, sorry.
-/
import Derived.Test.YtiepinfcndefhaaChecked
import GoSem.Claim
import GoSem.ClaimJoined
import GoSem.ClaimMapViews
import Derived.JoinedTies
import Derived.KernelRfl
namespace Go.Proofs.Ytiepinfcndefhaa
/- THE CELL 'sum', in the pinned program and in every row, IS THE sha256 OF THE DUMP (.gsa) THAT YtiepinfcndefhaaProg.lean LOADS. Nothing in Lean hashes anything: it is a label: what it is worth is what the hold of that sum in a sandbox is worth. -/
noncomputable def Try.pinned : Pinned := { name := "ytiepinfcndefhaa", sum := "7038a6d6b2e49fdf97330d1fc3dd24c23acde98689f3944afcaa4723e726bbc6", checked := Try.checked }
namespace Rows
def none {H : Type} : Left H := { results := [], args := [] }

/-- 'tenetlaw16.SizesKeeps': WHATEVER THE INPUT: true; the input reads as it did. -/
def sizesKeepsSpec : ChangeSpec := { name := "sizesKeeps", fn := fun _ => fun
  | [d1, d2] => { results := [.lit (.bool true)], args := [d1, d2] }
  | _ => none }
def sizesKeepsRow : OpenClaim := { program := "ytiepinfcndefhaa", sum := "7038a6d6b2e49fdf97330d1fc3dd24c23acde98689f3944afcaa4723e726bbc6", func := "tenet/tenetlaw16.SizesKeeps", spec := "sizesKeeps", unfollowed := true, recurses := true, plainKeys := false, apart := false }
def SizesKeepsSaid : Prop := sizesKeepsRow.holds Try.pinned (OpenSpec.ofChange sizesKeepsSpec)

/-- ITS FALSE NEIGHBOUR: 'it returns false'. Refute it at one input. -/
def sizesKeepsWrong : ChangeSpec := { name := "sizesKeeps", fn := fun _ => fun
  | [d1, d2] => { results := [.lit (.bool false)], args := [d1, d2] }
  | _ => none }
def SizesKeepsWrongFalsely : Prop := sizesKeepsRow.holds Try.pinned (OpenSpec.ofChange sizesKeepsWrong)

/-- 'tenetlaw16.SizesTerminates': WHATEVER THE INPUT: true; the input reads as it did. -/
def sizesTerminatesSpec : ChangeSpec := { name := "sizesTerminates", fn := fun _ => fun
  | [d] => { results := [.lit (.bool true)], args := [d] }
  | _ => none }
def sizesTerminatesRow : OpenClaim := { program := "ytiepinfcndefhaa", sum := "7038a6d6b2e49fdf97330d1fc3dd24c23acde98689f3944afcaa4723e726bbc6", func := "tenet/tenetlaw16.SizesTerminates", spec := "sizesTerminates", unfollowed := true, recurses := true, plainKeys := false, apart := false }
def SizesTerminatesSaid : Prop := sizesTerminatesRow.holds Try.pinned (OpenSpec.ofChange sizesTerminatesSpec)

/-- ITS FALSE NEIGHBOUR: 'it returns false'. Refute it at one input. -/
def sizesTerminatesWrong : ChangeSpec := { name := "sizesTerminates", fn := fun _ => fun
  | [d] => { results := [.lit (.bool false)], args := [d] }
  | _ => none }
def SizesTerminatesWrongFalsely : Prop := sizesTerminatesRow.holds Try.pinned (OpenSpec.ofChange sizesTerminatesWrong)

/-- 'tenetlaw16.SizesAssociates': WHATEVER THE INPUT: true; the input reads as it did. -/
def sizesAssociatesSpec : ChangeSpec := { name := "sizesAssociates", fn := fun _ => fun
  | [d1, d2, d3] => { results := [.lit (.bool true)], args := [d1, d2, d3] }
  | _ => none }
def sizesAssociatesRow : OpenClaim := { program := "ytiepinfcndefhaa", sum := "7038a6d6b2e49fdf97330d1fc3dd24c23acde98689f3944afcaa4723e726bbc6", func := "tenet/tenetlaw16.SizesAssociates", spec := "sizesAssociates", unfollowed := true, recurses := true, plainKeys := false, apart := false }
def SizesAssociatesSaid : Prop := sizesAssociatesRow.holds Try.pinned (OpenSpec.ofChange sizesAssociatesSpec)

/-- ITS FALSE NEIGHBOUR: 'it returns false'. Refute it at one input. -/
def sizesAssociatesWrong : ChangeSpec := { name := "sizesAssociates", fn := fun _ => fun
  | [d1, d2, d3] => { results := [.lit (.bool false)], args := [d1, d2, d3] }
  | _ => none }
def SizesAssociatesWrongFalsely : Prop := sizesAssociatesRow.holds Try.pinned (OpenSpec.ofChange sizesAssociatesWrong)

/-- 'tenetlaw16.SizesDescends': WHATEVER THE INPUT: true; the input reads as it did. -/
def sizesDescendsSpec : ChangeSpec := { name := "sizesDescends", fn := fun _ => fun
  | [d1, d2] => { results := [.lit (.bool true)], args := [d1, d2] }
  | _ => none }
def sizesDescendsRow : OpenClaim := { program := "ytiepinfcndefhaa", sum := "7038a6d6b2e49fdf97330d1fc3dd24c23acde98689f3944afcaa4723e726bbc6", func := "tenet/tenetlaw16.SizesDescends", spec := "sizesDescends", unfollowed := true, recurses := true, plainKeys := false, apart := false }
def SizesDescendsSaid : Prop := sizesDescendsRow.holds Try.pinned (OpenSpec.ofChange sizesDescendsSpec)

/-- ITS FALSE NEIGHBOUR: 'it returns false'. Refute it at one input. -/
def sizesDescendsWrong : ChangeSpec := { name := "sizesDescends", fn := fun _ => fun
  | [d1, d2] => { results := [.lit (.bool false)], args := [d1, d2] }
  | _ => none }
def SizesDescendsWrongFalsely : Prop := sizesDescendsRow.holds Try.pinned (OpenSpec.ofChange sizesDescendsWrong)

/-- 'tenetlaw16.SizesComposes': WHATEVER THE INPUT: true; the input reads as it did. -/
def sizesComposesSpec : ChangeSpec := { name := "sizesComposes", fn := fun _ => fun
  | [d1, d2] => { results := [.lit (.bool true)], args := [d1, d2] }
  | _ => none }
def sizesComposesRow : OpenClaim := { program := "ytiepinfcndefhaa", sum := "7038a6d6b2e49fdf97330d1fc3dd24c23acde98689f3944afcaa4723e726bbc6", func := "tenet/tenetlaw16.SizesComposes", spec := "sizesComposes", unfollowed := true, recurses := true, plainKeys := false, apart := false }
def SizesComposesSaid : Prop := sizesComposesRow.holds Try.pinned (OpenSpec.ofChange sizesComposesSpec)

/-- ITS FALSE NEIGHBOUR: 'it returns false'. Refute it at one input. -/
def sizesComposesWrong : ChangeSpec := { name := "sizesComposes", fn := fun _ => fun
  | [d1, d2] => { results := [.lit (.bool false)], args := [d1, d2] }
  | _ => none }
def SizesComposesWrongFalsely : Prop := sizesComposesRow.holds Try.pinned (OpenSpec.ofChange sizesComposesWrong)

/-- 'tenetlaw16.SizesCloses': WHATEVER THE INPUT: true; the input reads as it did. -/
def sizesClosesSpec : ChangeSpec := { name := "sizesCloses", fn := fun _ => fun
  | [d] => { results := [.lit (.bool true)], args := [d] }
  | _ => none }
def sizesClosesRow : OpenClaim := { program := "ytiepinfcndefhaa", sum := "7038a6d6b2e49fdf97330d1fc3dd24c23acde98689f3944afcaa4723e726bbc6", func := "tenet/tenetlaw16.SizesCloses", spec := "sizesCloses", unfollowed := true, recurses := true, plainKeys := false, apart := false }
def SizesClosesSaid : Prop := sizesClosesRow.holds Try.pinned (OpenSpec.ofChange sizesClosesSpec)

/-- ITS FALSE NEIGHBOUR: 'it returns false'. Refute it at one input. -/
def sizesClosesWrong : ChangeSpec := { name := "sizesCloses", fn := fun _ => fun
  | [d] => { results := [.lit (.bool false)], args := [d] }
  | _ => none }
def SizesClosesWrongFalsely : Prop := sizesClosesRow.holds Try.pinned (OpenSpec.ofChange sizesClosesWrong)

/-- 'tenetlaw16.SizesAgain': WHATEVER THE INPUT: true; the input reads as it did. -/
def sizesAgainSpec : ChangeSpec := { name := "sizesAgain", fn := fun _ => fun
  | [d] => { results := [.lit (.bool true)], args := [d] }
  | _ => none }
def sizesAgainRow : OpenClaim := { program := "ytiepinfcndefhaa", sum := "7038a6d6b2e49fdf97330d1fc3dd24c23acde98689f3944afcaa4723e726bbc6", func := "tenet/tenetlaw16.SizesAgain", spec := "sizesAgain", unfollowed := true, recurses := true, plainKeys := false, apart := false }
def SizesAgainSaid : Prop := sizesAgainRow.holds Try.pinned (OpenSpec.ofChange sizesAgainSpec)

/-- ITS FALSE NEIGHBOUR: 'it returns false'. Refute it at one input. -/
def sizesAgainWrong : ChangeSpec := { name := "sizesAgain", fn := fun _ => fun
  | [d] => { results := [.lit (.bool false)], args := [d] }
  | _ => none }
def SizesAgainWrongFalsely : Prop := sizesAgainRow.holds Try.pinned (OpenSpec.ofChange sizesAgainWrong)

/-- 'tenettop.TopTerminates': WHATEVER THE INPUT: true; the input reads as it did. -/
def topTerminatesSpec : ChangeSpec := { name := "topTerminates", fn := fun _ => fun
  | [d1, d2] => { results := [.lit (.bool true)], args := [d1, d2] }
  | _ => none }
def topTerminatesRow : OpenClaim := { program := "ytiepinfcndefhaa", sum := "7038a6d6b2e49fdf97330d1fc3dd24c23acde98689f3944afcaa4723e726bbc6", func := "tenet/tenettop.TopTerminates", spec := "topTerminates", unfollowed := true, recurses := true, loops := true, plainKeys := false, apart := false }
def TopTerminatesSaid : Prop := topTerminatesRow.holds Try.pinned (OpenSpec.ofChange topTerminatesSpec)

/-- ITS FALSE NEIGHBOUR: 'it returns false'. Refute it at one input. -/
def topTerminatesWrong : ChangeSpec := { name := "topTerminates", fn := fun _ => fun
  | [d1, d2] => { results := [.lit (.bool false)], args := [d1, d2] }
  | _ => none }
def TopTerminatesWrongFalsely : Prop := topTerminatesRow.holds Try.pinned (OpenSpec.ofChange topTerminatesWrong)

/- THE SECOND FORM. 'bulk': how many values and letters a reading holds, each counted each time it is reached (what is shared counts as often as it is met; a slice's spare places count too). A statement '..UptoSaid' is the law's where the arguments, and the package variables that the reading takes, are together of bulk at most 1048576: NARROWER than '..Said'. Prove '..Said' where nothing that the law and all that it calls make is longer than what came in: it says more and counts as full. Else prove '..UptoSaid'. A law counts once. -/
mutual
def uptoBulk {H : Type} : DataW H → Nat
  | .lit (.string bytes) => bytes.length + 1
  | .lit _ => 1
  | .nil => 1
  | .ptr d => uptoBulk d + 1
  | .slice elems spare => uptoBulkAll elems + uptoBulkAll spare + 1
  | .agg parts => uptoBulkAll parts + 1
  | .iface _ d => uptoBulk d + 1
  | .map entries => uptoBulkEntries entries + 1
  | .held _ => 1
def uptoBulkAll {H : Type} : List (DataW H) → Nat
  | [] => 0
  | d :: r => uptoBulk d + uptoBulkAll r
def uptoBulkEntries {H : Type} : List (Lit × DataW H) → Nat
  | [] => 0
  | x :: r => uptoBulkEntry x + uptoBulkEntries r
def uptoBulkEntry {H : Type} : Lit × DataW H → Nat
  | (.string bytes, d) => bytes.length + uptoBulk d + 1
  | (_, d) => uptoBulk d + 1
 end
def uptoSmall : (H : Type) → List (DataW H) → Bool := fun _ ds => decide (uptoBulkAll ds ≤ 1048576)
def OpenSpec.upto (s : _root_.Go.ChangeSpec) : _root_.Go.OpenSpec := { _root_.Go.OpenSpec.ofChange s with cond := some uptoSmall }

/-- 'tenetlaw16.SizesKeeps', WHERE WHAT IT READS IS OF BULK AT MOST 1048576: true; the input reads as it did. -/
def sizesKeepsUptoRow : OpenClaim := { program := "ytiepinfcndefhaa", sum := "7038a6d6b2e49fdf97330d1fc3dd24c23acde98689f3944afcaa4723e726bbc6", func := "tenet/tenetlaw16.SizesKeeps", spec := "sizesKeeps", unfollowed := true, recurses := true, plainKeys := false, apart := false, narrowed := true }
def SizesKeepsUptoSaid : Prop := sizesKeepsUptoRow.holds Try.pinned (OpenSpec.upto sizesKeepsSpec)

/-- 'tenetlaw16.SizesTerminates', WHERE WHAT IT READS IS OF BULK AT MOST 1048576: true; the input reads as it did. -/
def sizesTerminatesUptoRow : OpenClaim := { program := "ytiepinfcndefhaa", sum := "7038a6d6b2e49fdf97330d1fc3dd24c23acde98689f3944afcaa4723e726bbc6", func := "tenet/tenetlaw16.SizesTerminates", spec := "sizesTerminates", unfollowed := true, recurses := true, plainKeys := false, apart := false, narrowed := true }
def SizesTerminatesUptoSaid : Prop := sizesTerminatesUptoRow.holds Try.pinned (OpenSpec.upto sizesTerminatesSpec)

/-- 'tenetlaw16.SizesAssociates', WHERE WHAT IT READS IS OF BULK AT MOST 1048576: true; the input reads as it did. -/
def sizesAssociatesUptoRow : OpenClaim := { program := "ytiepinfcndefhaa", sum := "7038a6d6b2e49fdf97330d1fc3dd24c23acde98689f3944afcaa4723e726bbc6", func := "tenet/tenetlaw16.SizesAssociates", spec := "sizesAssociates", unfollowed := true, recurses := true, plainKeys := false, apart := false, narrowed := true }
def SizesAssociatesUptoSaid : Prop := sizesAssociatesUptoRow.holds Try.pinned (OpenSpec.upto sizesAssociatesSpec)

/-- 'tenetlaw16.SizesDescends', WHERE WHAT IT READS IS OF BULK AT MOST 1048576: true; the input reads as it did. -/
def sizesDescendsUptoRow : OpenClaim := { program := "ytiepinfcndefhaa", sum := "7038a6d6b2e49fdf97330d1fc3dd24c23acde98689f3944afcaa4723e726bbc6", func := "tenet/tenetlaw16.SizesDescends", spec := "sizesDescends", unfollowed := true, recurses := true, plainKeys := false, apart := false, narrowed := true }
def SizesDescendsUptoSaid : Prop := sizesDescendsUptoRow.holds Try.pinned (OpenSpec.upto sizesDescendsSpec)

/-- 'tenetlaw16.SizesComposes', WHERE WHAT IT READS IS OF BULK AT MOST 1048576: true; the input reads as it did. -/
def sizesComposesUptoRow : OpenClaim := { program := "ytiepinfcndefhaa", sum := "7038a6d6b2e49fdf97330d1fc3dd24c23acde98689f3944afcaa4723e726bbc6", func := "tenet/tenetlaw16.SizesComposes", spec := "sizesComposes", unfollowed := true, recurses := true, plainKeys := false, apart := false, narrowed := true }
def SizesComposesUptoSaid : Prop := sizesComposesUptoRow.holds Try.pinned (OpenSpec.upto sizesComposesSpec)

/-- 'tenetlaw16.SizesCloses', WHERE WHAT IT READS IS OF BULK AT MOST 1048576: true; the input reads as it did. -/
def sizesClosesUptoRow : OpenClaim := { program := "ytiepinfcndefhaa", sum := "7038a6d6b2e49fdf97330d1fc3dd24c23acde98689f3944afcaa4723e726bbc6", func := "tenet/tenetlaw16.SizesCloses", spec := "sizesCloses", unfollowed := true, recurses := true, plainKeys := false, apart := false, narrowed := true }
def SizesClosesUptoSaid : Prop := sizesClosesUptoRow.holds Try.pinned (OpenSpec.upto sizesClosesSpec)

/-- 'tenetlaw16.SizesAgain', WHERE WHAT IT READS IS OF BULK AT MOST 1048576: true; the input reads as it did. -/
def sizesAgainUptoRow : OpenClaim := { program := "ytiepinfcndefhaa", sum := "7038a6d6b2e49fdf97330d1fc3dd24c23acde98689f3944afcaa4723e726bbc6", func := "tenet/tenetlaw16.SizesAgain", spec := "sizesAgain", unfollowed := true, recurses := true, plainKeys := false, apart := false, narrowed := true }
def SizesAgainUptoSaid : Prop := sizesAgainUptoRow.holds Try.pinned (OpenSpec.upto sizesAgainSpec)

/-- 'tenettop.TopTerminates', WHERE WHAT IT READS IS OF BULK AT MOST 1048576: true; the input reads as it did. -/
def topTerminatesUptoRow : OpenClaim := { program := "ytiepinfcndefhaa", sum := "7038a6d6b2e49fdf97330d1fc3dd24c23acde98689f3944afcaa4723e726bbc6", func := "tenet/tenettop.TopTerminates", spec := "topTerminates", unfollowed := true, recurses := true, loops := true, plainKeys := false, apart := false, narrowed := true }
def TopTerminatesUptoSaid : Prop := topTerminatesUptoRow.holds Try.pinned (OpenSpec.upto topTerminatesSpec)

end Rows
end Go.Proofs.Ytiepinfcndefhaa
