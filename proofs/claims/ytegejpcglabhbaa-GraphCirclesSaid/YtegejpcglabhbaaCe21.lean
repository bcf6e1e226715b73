/- A part of this claim's proof: texts of its author, and printed ones, packed by a program of its author's. -/
import Derived.Test.YtegejpcglabhbaaCe9
import Derived.Deep.DeepCutAuto
import Derived.Deep.CutBlock
namespace Go.Proofs.Ytegejpcglabhbaa.G
open Go.RowKit Go.Proofs.YtegejpcglabhbaaW.PrintWords Go.Proofs.YtegejpcglabhbaaW.PrintLast Go.Proofs.YtegejpcglabhbaaW.PrintMore
set_option linter.unusedVariables false
set_option linter.unusedSimpArgs false
def lgo : List S108 → List S94 → Bool → List S94 × Bool
 | [], out, more => (out, more)
 | e :: es, out, more => if (out.getD e.f0.toNat z94).f0 = true ∧ ((out.getD e.f1.toNat z94).f0 = false ∨ (out.getD e.f1.toNat z94).f1 < wrap64 ((out.getD e.f0.toNat z94).f1 + e.f2))
  then lgo es (out.set e.f1.toNat ⟨true, wrap64 ((out.getD e.f0.toNat z94).f1 + e.f2)⟩) true else lgo es out more
def lrounds (es : List S108) : Nat → List S94 → List S94 × Bool
 | 0, _ => ([], false)
 | k + 1, out => if (lgo es out false).2 = true then lrounds es k (lgo es out false).1 else ((lgo es out false).1, true)
def edgesOk (n : Nat) (es : List S108) : Prop := ∀ e ∈ es, 0 ≤ e.f0 ∧ e.f0 ≤ n ∧ 0 ≤ e.f1 ∧ e.f1 ≤ n
instance (n : Nat) (es : List S108) : Decidable (edgesOk n es) := by unfold edgesOk; infer_instance
def tenetref02_longest.f (_k : Nat) (a0 : Int) (l1 : List S108) (a2 : Int) : Option (List S94 × Bool) :=
 if 0 ≤ a0 ∧ a0 ≤ 1200 ∧ 0 ≤ a2 ∧ a2 ≤ a0 ∧ edgesOk a0.toNat l1 then some (lrounds l1 (a0.toNat + 2) ((List.replicate (a0.toNat + 1) ⟨false, 0⟩).set a2.toNat ⟨true, 0⟩)) else none
theorem tenetref02_longest.mono : ∀ a0 a1 a2 k, LeO (tenetref02_longest.f k a0 a1 a2) (tenetref02_longest.f (k + 1) a0 a1 a2) := fun _ _ _ _ => LeO.refl _
end Go.Proofs.Ytegejpcglabhbaa.G
