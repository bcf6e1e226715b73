/- Plain law: the example holds. -/
import Derived.Test.YtegejpcglabhbaaGf21
namespace Go.Proofs.Ytegejpcglabhbaa.G
open Go.RowKit Go.Proofs.YtegejpcglabhbaaW.PrintWords Go.Proofs.YtegejpcglabhbaaW.PrintLast Go.Proofs.YtegejpcglabhbaaW.PrintMore
set_option linter.unusedVariables false
set_option linter.unusedSimpArgs false

theorem awake_at : tenetlaw02_awake.f 60 = some true := by kernel_rfl
theorem awake_k (k : Nat) (hk : 60 ≤ k) : tenetlaw02_awake.f k = some true := at_rounds (fun k => tenetlaw02_awake.mono k) hk awake_at
end Go.Proofs.Ytegejpcglabhbaa.G
