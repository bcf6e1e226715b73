/- Clip: the walk. No condition. -/
import Derived.Test.YtiepinfcndefhaaSh
namespace Go.Proofs.Ytiepinfcndefhaa.S
open Go.RowKit Go.Proofs.YtiepinfcndefhaaW.PrintWords Go.Proofs.YtiepinfcndefhaaW.PrintLast Go.Proofs.YtiepinfcndefhaaW.PrintMore
set_option linter.unusedVariables false
set_option linter.unusedSimpArgs false

/-- A slice of length 0 or more, its capacity cut to its length. -/
theorem clip_calls (A : Option Addr) (n c : Nat) (hn : n ≤ c) (hA : A = none → n = 0 ∧ c = 0) (w : World) :
    Calls Try.prog 66 #[.slice A n c] w fun e w' => e = .returned (.slice A n n) ∧ Below w.heap.size w w' := by
  go_enter Try.func66, Try.ntmps66
  cases A with
  | none =>
    obtain ⟨rfl, rfl⟩ := hA rfl
    go_wp2
    go_ret
    exact ⟨rfl, Below.refl _ _⟩
  | some ad =>
    clear hA
    have h1 : (n : Int) ≤ (c : Int) := by omega
    have h0 : (0 : Int) ≤ (n : Int) := by omega
    go_wp2
    go_ret
    exact ⟨rfl, Below.refl _ _⟩
end Go.Proofs.Ytiepinfcndefhaa.S
