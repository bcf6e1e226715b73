/- A part of this claim's proof: texts of its author, and printed ones, packed by a program of its author's. -/
import Derived.Test.YtegejpcglabhbaaCe2
import Derived.Test.YtegejpcglabhbaaCe12
namespace Go.Proofs.Ytegejpcglabhbaa.G
open Go.RowKit Go.Proofs.YtegejpcglabhbaaW.PrintWords Go.Proofs.YtegejpcglabhbaaW.PrintLast Go.Proofs.YtegejpcglabhbaaW.PrintMore
attribute [local go_sem] max2_int min2_int max_two min_two max_three min_three max_four min_four
set_option linter.unusedVariables false
set_option linter.unusedSimpArgs false
def tenetlaw02_eqClasses.l0 : Nat → List (List Int) → List (List Int) → Int → Option (Bool)
 | 0, _, _, _ => none
 | k + 1, x0, x1, x5 => if x5 < (x0.length : Int) then (if 0 ≤ x5 then (if x5 < (x1.length : Int) then ((tenetref00_EqInts.f k (rd_L8 x0 x5) (rd_L8 x1 x5)).bind fun t579 => (if t579 = true then (tenetlaw02_eqClasses.l0 k x0 x1 (wrap64 (x5 + 1))) else (some false))) else (none)) else (none)) else (some true)
def tenetlaw02_eqClasses.f (k : Nat) (l0 : List (List Int)) (l1 : List (List Int)) : Option (Bool) := if (l0.length : Int) = (l1.length : Int) then (tenetlaw02_eqClasses.l0 k l0 l1 0) else (some false)
theorem tenetlaw02_eqClasses.mono_l : ∀ k, (∀ y0 y1 y2, LeO (tenetlaw02_eqClasses.l0 k y0 y1 y2) (tenetlaw02_eqClasses.l0 (k + 1) y0 y1 y2))
 | 0 => fun _ _ _ r h => by simp [tenetlaw02_eqClasses.l0] at h
 | k + 1 => by
  have ih0 := tenetlaw02_eqClasses.mono_l k
  ·intro y0 y1 y2
   unfold tenetlaw02_eqClasses.l0
   repeat' first
   | (with_reducible exact ih0 _ _ _)
   | (with_reducible exact tenetref00_EqInts.mono _ _ _)
   | (with_reducible exact LeO.refl _)
   | (with_reducible exact LeO.none _)
   | (with_reducible refine LeO.ite ?_ ?_)
   | (with_reducible refine LeO.bind ?_ (fun _ => ?_))
   | exact ih0 _ _ _
   | exact tenetref00_EqInts.mono _ _ _
   | exact LeO.none _
   | refine LeO.ite ?_ ?_
   | refine LeO.bind ?_ (fun _ => ?_)
theorem tenetlaw02_eqClasses.mono : ∀ a0 a1 k, LeO (tenetlaw02_eqClasses.f k a0 a1) (tenetlaw02_eqClasses.f (k + 1) a0 a1) := by
 intro a0 a1 k
 have ih0 := tenetlaw02_eqClasses.mono_l k
 unfold tenetlaw02_eqClasses.f
 repeat' first
   | (with_reducible exact ih0 _ _ _)
   | (with_reducible exact tenetref00_EqInts.mono _ _ _)
   | (with_reducible exact LeO.refl _)
   | (with_reducible exact LeO.none _)
   | (with_reducible refine LeO.ite ?_ ?_)
   | (with_reducible refine LeO.bind ?_ (fun _ => ?_))
   | exact ih0 _ _ _
   | exact tenetref00_EqInts.mono _ _ _
   | exact LeO.none _
   | refine LeO.ite ?_ ?_
   | refine LeO.bind ?_ (fun _ => ?_)
end Go.Proofs.Ytegejpcglabhbaa.G
