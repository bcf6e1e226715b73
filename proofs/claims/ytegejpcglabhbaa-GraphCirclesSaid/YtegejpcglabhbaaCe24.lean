/- A part of this claim's proof: texts of its author, and printed ones, packed by a program of its author's. -/
import Derived.Test.YtegejpcglabhbaaCe2
import Derived.Test.YtegejpcglabhbaaCe12
import Derived.Test.YtegejpcglabhbaaCe22
namespace Go.Proofs.Ytegejpcglabhbaa.G
open Go.RowKit Go.Proofs.YtegejpcglabhbaaW.PrintWords Go.Proofs.YtegejpcglabhbaaW.PrintLast Go.Proofs.YtegejpcglabhbaaW.PrintMore
attribute [local go_sem] max2_int min2_int max_two min_two max_three min_three max_four min_four
set_option linter.unusedVariables false
set_option linter.unusedSimpArgs false
def tenetref02_Solve.f (k : Nat) (a0 : Int) (l1 : List (S44)) : Option (List Int × Int) := (tenetref02_Valid.f k a0 l1).bind fun t242 => (if t242 = true then ((tenetref02_solve.f k a0 l1).bind fun bt243 => (if bt243.2 = true then (some (bt243.1, 0)) else (some (([] : List Int), 20)))) else (some (([] : List Int), 4)))
theorem tenetref02_Solve.mono : ∀ a0 a1 k, LeO (tenetref02_Solve.f k a0 a1) (tenetref02_Solve.f (k + 1) a0 a1) := by
 intro a0 a1 k
 unfold tenetref02_Solve.f
 repeat' first
   | (with_reducible exact tenetref02_Valid.mono _ _ _)
   | (with_reducible exact tenetref02_solve.mono _ _ _)
   | (with_reducible exact LeO.refl _)
   | (with_reducible exact LeO.none _)
   | (with_reducible refine LeO.ite ?_ ?_)
   | (with_reducible refine LeO.bind ?_ (fun _ => ?_))
   | exact tenetref02_Valid.mono _ _ _
   | exact tenetref02_solve.mono _ _ _
   | exact LeO.none _
   | refine LeO.ite ?_ ?_
   | refine LeO.bind ?_ (fun _ => ?_)
end Go.Proofs.Ytegejpcglabhbaa.G
