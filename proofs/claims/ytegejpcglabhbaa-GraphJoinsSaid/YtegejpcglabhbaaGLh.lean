/- Words for the laws' walks: rows of constraints that are built. -/
import Derived.Test.YtegejpcglabhbaaGHs
import Derived.Test.YtegejpcglabhbaaVX
import Derived.Test.YtegejpcglabhbaaVY
namespace Go.Proofs.Ytegejpcglabhbaa.G
open Go.RowKit Go.Proofs.YtegejpcglabhbaaW.PrintWords Go.Proofs.YtegejpcglabhbaaW.PrintLast Go.Proofs.YtegejpcglabhbaaW.PrintMore
set_option linter.unusedVariables false
set_option linter.unusedSimpArgs false

theorem drawnB {w w1 : World} (h : Drawn0 w w1) : Below w.heap.size w w1 := by
  obtain ⟨nd, rfl⟩ := h
  exact pw_below_drewN (Below.refl _ _) nd
/-- A row of constraints without elements that was built. -/
theorem empty44 (w : World) (base : Nat) (hb : base ≤ w.heap.size) : Kd.N k44 44 (w.alloc (.cells #[] 44)) base (fun _ => True) (.slice (some ⟨w.heap.size, 0, none⟩) 0 0) [] :=
  Kd.R_N ⟨fun _ _ => trivial, [], ⟨rfl, .inr ⟨w.heap.size, 0, #[], rfl, hb, blk_new w _, Nat.le_refl _, Nat.zero_le _, rfl, rfl⟩⟩, Reps.none _ _⟩
/-- A level of one variable that was made, as a part of what is appended. -/
theorem at_F {w : World} {base : Nat} {v : Value} {r : List S96} (h : Kd.R k96 96 w base (fun _ => True) v r) : ∃ A c, v = .slice A r.length c ∧ r.length ≤ c ∧ Kd.F k96 w (fun k_ => some k_ = v.ownBlock) A r.length r := by
  obtain ⟨A, c, rfl⟩ := Kd.R_slice h
  exact ⟨A, c, rfl, (Kd.R_reads' h).2.1, Kd.N_F (Kd.R_N (Kd.R_tight rfl h))⟩
theorem F96_nil (w : World) (ok : Nat → Prop) : Kd.F k96 w ok none 0 [] := fun W' _ => Kd.C_nil _ _
end Go.Proofs.Ytegejpcglabhbaa.G
