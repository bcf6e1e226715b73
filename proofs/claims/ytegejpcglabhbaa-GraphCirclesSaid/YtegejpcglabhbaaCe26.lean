/- A part of this claim's proof: texts of its author, and printed ones, packed by a program of its author's. -/
import Derived.Test.YtegejpcglabhbaaCe2
import Derived.Test.YtegejpcglabhbaaCe22
import Derived.Test.YtegejpcglabhbaaCe20
import Derived.Test.YtegejpcglabhbaaCe21
namespace Go.Proofs.Ytegejpcglabhbaa.G
open Go.RowKit Go.Proofs.YtegejpcglabhbaaW.PrintWords Go.Proofs.YtegejpcglabhbaaW.PrintLast Go.Proofs.YtegejpcglabhbaaW.PrintMore
attribute [local go_sem] max2_int min2_int max_two min_two max_three min_three max_four min_four
set_option linter.unusedVariables false
set_option linter.unusedSimpArgs false
def tenetref02_follows.l0 : Nat → Int → List (S108) → List (S108) → Int → Option (Bool)
 | 0, _, _, _, _ => none
 | k + 1, x0, x9, x10, x11 => if x11 < (x10.length : Int) then (if 0 ≤ x11 then ((tenetref02_longest.f k x0 x9 ((rd_T108 x10 x11).f0)).bind fun bt373 => (if 0 ≤ ((rd_T108 x10 x11).f1) then (if ((rd_T108 x10 x11).f1) < (bt373.1.length : Int) then (if ((rd_T94 bt373.1 ((rd_T108 x10 x11).f1)).f0 = true) then (if ((rd_T94 bt373.1 ((rd_T108 x10 x11).f1)).f1) < ((rd_T108 x10 x11).f2) then (some false) else (tenetref02_follows.l0 k x0 x9 x10 (wrap64 (x11 + 1)))) else (some false)) else (none)) else (none))) else (none)) else (some true)
def tenetref02_follows.f (k : Nat) (a0 : Int) (l1 : List (S44)) (a2_0 : Int) (l2_1 : List (S96)) (a2_2 : Int) (l2_3 : List (S96)) : Option (Bool) := (tenetref02_solve.f k a0 l1).bind fun bt362 => (if bt362.2 = true then ((tenetref02_edges.f k a0 l1).bind fun t366 => ((tenetref02_parts.f k a0 a2_0 l2_1 a2_2 l2_3 ([] : List (S108))).bind fun t369 => (tenetref02_follows.l0 k a0 t366 t369 0))) else (some true))
theorem tenetref02_follows.mono_l : ∀ k, (∀ y0 y1 y2 y3, LeO (tenetref02_follows.l0 k y0 y1 y2 y3) (tenetref02_follows.l0 (k + 1) y0 y1 y2 y3))
 | 0 => fun _ _ _ _ r h => by simp [tenetref02_follows.l0] at h
 | k + 1 => by
  have ih0 := tenetref02_follows.mono_l k
  ·intro y0 y1 y2 y3
   unfold tenetref02_follows.l0
   repeat' first
   | (with_reducible exact ih0 _ _ _ _)
   | (with_reducible exact tenetref02_edges.mono _ _ _)
   | (with_reducible exact tenetref02_longest.mono _ _ _ _)
   | (with_reducible exact tenetref02_parts.mono _ _ _ _ _ _ _)
   | (with_reducible exact tenetref02_solve.mono _ _ _)
   | (with_reducible exact LeO.refl _)
   | (with_reducible exact LeO.none _)
   | (with_reducible refine LeO.ite ?_ ?_)
   | (with_reducible refine LeO.bind ?_ (fun _ => ?_))
   | exact ih0 _ _ _ _
   | exact tenetref02_edges.mono _ _ _
   | exact tenetref02_longest.mono _ _ _ _
   | exact tenetref02_parts.mono _ _ _ _ _ _ _
   | exact tenetref02_solve.mono _ _ _
   | exact LeO.none _
   | refine LeO.ite ?_ ?_
   | refine LeO.bind ?_ (fun _ => ?_)
theorem tenetref02_follows.mono : ∀ a0 a1 a2 a3 a4 a5 k, LeO (tenetref02_follows.f k a0 a1 a2 a3 a4 a5) (tenetref02_follows.f (k + 1) a0 a1 a2 a3 a4 a5) := by
 intro a0 a1 a2 a3 a4 a5 k
 have ih0 := tenetref02_follows.mono_l k
 unfold tenetref02_follows.f
 repeat' first
   | (with_reducible exact ih0 _ _ _ _)
   | (with_reducible exact tenetref02_edges.mono _ _ _)
   | (with_reducible exact tenetref02_longest.mono _ _ _ _)
   | (with_reducible exact tenetref02_parts.mono _ _ _ _ _ _ _)
   | (with_reducible exact tenetref02_solve.mono _ _ _)
   | (with_reducible exact LeO.refl _)
   | (with_reducible exact LeO.none _)
   | (with_reducible refine LeO.ite ?_ ?_)
   | (with_reducible refine LeO.bind ?_ (fun _ => ?_))
   | exact ih0 _ _ _ _
   | exact tenetref02_edges.mono _ _ _
   | exact tenetref02_longest.mono _ _ _ _
   | exact tenetref02_parts.mono _ _ _ _ _ _ _
   | exact tenetref02_solve.mono _ _ _
   | exact LeO.none _
   | refine LeO.ite ?_ ?_
   | refine LeO.bind ?_ (fun _ => ?_)
end Go.Proofs.Ytegejpcglabhbaa.G
