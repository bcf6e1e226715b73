/- A part of this claim's proof: texts of its author, and printed ones, packed by a program of its author's. -/
import Derived.Test.YtegejpcglabhbaaCb2
import Derived.Test.YtegejpcglabhbaaCb12
import Derived.Test.YtegejpcglabhbaaCb14
import Derived.Test.YtegejpcglabhbaaCb22
import Derived.Test.YtegejpcglabhbaaCb28
import Derived.Test.YtegejpcglabhbaaCb29
namespace Go.Proofs.Ytegejpcglabhbaa.G
open Go.RowKit Go.Proofs.YtegejpcglabhbaaW.PrintWords Go.Proofs.YtegejpcglabhbaaW.PrintLast Go.Proofs.YtegejpcglabhbaaW.PrintMore
attribute [local go_sem] max2_int min2_int max_two min_two max_three min_three max_four min_four
set_option linter.unusedVariables false
set_option linter.unusedSimpArgs false
def tenetlaw02_GraphClasses.f (k : Nat) (a0 : Int) (l1 : List (S44)) : Option (Bool) := (tenetlaw02_heavy.f k a0 l1 120).bind fun t580 => (if t580 = true then ((tenetlaw02_awake.f k).bind fun t581 => (some t581)) else ((graph_Classes.f k a0 l1).bind fun bt582 => ((tenetref02_Classes.f k a0 l1).bind fun bt586 => (if bt582.2 = bt586.2 then ((tenetlaw02_eqClasses.f k bt582.1 bt586.1).bind fun t590 => (if t590 = true then ((tenetlaw02_awake.f k).bind fun t591 => (some t591)) else (some false))) else (some false)))))
theorem tenetlaw02_GraphClasses.mono : ∀ a0 a1 k, LeO (tenetlaw02_GraphClasses.f k a0 a1) (tenetlaw02_GraphClasses.f (k + 1) a0 a1) := by
 intro a0 a1 k
 unfold tenetlaw02_GraphClasses.f
 repeat' first
   | (with_reducible exact graph_Classes.mono _ _ _)
   | (with_reducible exact tenetlaw02_awake.mono _)
   | (with_reducible exact tenetlaw02_eqClasses.mono _ _ _)
   | (with_reducible exact tenetlaw02_heavy.mono _ _ _ _)
   | (with_reducible exact tenetref02_Classes.mono _ _ _)
   | (with_reducible exact LeO.refl _)
   | (with_reducible exact LeO.none _)
   | (with_reducible refine LeO.ite ?_ ?_)
   | (with_reducible refine LeO.bind ?_ (fun _ => ?_))
   | exact graph_Classes.mono _ _ _
   | exact tenetlaw02_awake.mono _
   | exact tenetlaw02_eqClasses.mono _ _ _
   | exact tenetlaw02_heavy.mono _ _ _ _
   | exact tenetref02_Classes.mono _ _ _
   | exact LeO.none _
   | refine LeO.ite ?_ ?_
   | refine LeO.bind ?_ (fun _ => ?_)
end Go.Proofs.Ytegejpcglabhbaa.G
