/- A part of this claim's proof: texts of its author, and printed ones, packed by a program of its author's. -/
import Derived.Test.YtegejpcglabhbaaCe2
import Derived.Test.YtegejpcglabhbaaCe12
import Derived.Test.YtegejpcglabhbaaCe14
import Derived.Test.YtegejpcglabhbaaCe22
import Derived.Test.YtegejpcglabhbaaCe28
import Derived.Test.YtegejpcglabhbaaCe29
import Derived.Test.YtegejpcglabhbaaCe25
namespace Go.Proofs.Ytegejpcglabhbaa.G
open Go.RowKit Go.Proofs.YtegejpcglabhbaaW.PrintWords Go.Proofs.YtegejpcglabhbaaW.PrintLast Go.Proofs.YtegejpcglabhbaaW.PrintMore
attribute [local go_sem] max2_int min2_int max_two min_two max_three min_three max_four min_four
set_option linter.unusedVariables false
set_option linter.unusedSimpArgs false
def tenetlaw02_GraphClasses.f (k : Nat) (a0 : Int) (l1 : List (S44)) : Option (Bool) := (tenetlaw02_heavy.f k a0 l1 120).bind fun t580 => (if t580 = true then ((tenetlaw02_awake.f k).bind fun t581 => (some t581)) else ((graph_Classes.f k a0 l1).bind fun bt582 => ((tenetref02_Classes.f k a0 l1).bind fun bt586 => (if bt582.2 = bt586.2 then ((tenetlaw02_eqClasses.f k bt582.1 bt586.1).bind fun t590 => (if t590 = true then ((tenetlaw02_awake.f k).bind fun t591 => (some t591)) else (some false))) else (some false)))))
theorem tenetlaw02_GraphClasses.mono : ∀ a0 a1 k, LeO (tenetlaw02_GraphClasses.f k a0 a1) (tenetlaw02_GraphClasses.f (k + 1) a0 a1) := by
 intro a0 a1 k
 unfold tenetlaw02_GraphClasses.f
 repeat' first
   | (with_reducible exact graph_Classes.mono _ _ _)
   | (with_reducible exact tenetlaw02_awake.mono _)
   | (with_reducible exact tenetlaw02_eqClasses.mono _ _ _)
   | (with_reducible exact tenetlaw02_heavy.mono _ _ _ _)
   | (with_reducible exact tenetref02_Classes.mono _ _ _)
   | (with_reducible exact LeO.refl _)
   | (with_reducible exact LeO.none _)
   | (with_reducible refine LeO.ite ?_ ?_)
   | (with_reducible refine LeO.bind ?_ (fun _ => ?_))
   | exact graph_Classes.mono _ _ _
   | exact tenetlaw02_awake.mono _
   | exact tenetlaw02_eqClasses.mono _ _ _
   | exact tenetlaw02_heavy.mono _ _ _ _
   | exact tenetref02_Classes.mono _ _ _
   | exact LeO.none _
   | refine LeO.ite ?_ ?_
   | refine LeO.bind ?_ (fun _ => ?_)
def tenetref00_HasInt.l0 : Nat → List Int → Int → Int → Option (Int)
 | 0, _, _, _ => none
 | k + 1, x0, x1, x5 => if x5 < (x0.length : Int) then (if 0 ≤ x5 then (if (rd x0 x5) = x1 then (some x5) else (tenetref00_HasInt.l0 k x0 x1 (wrap64 (x5 + 1)))) else (none)) else (some (-1))
def tenetref00_HasInt.f (k : Nat) (l0 : List Int) (a1 : Int) : Option (Int) := tenetref00_HasInt.l0 k l0 a1 0
theorem tenetref00_HasInt.mono_l : ∀ k, (∀ y0 y1 y2, LeO (tenetref00_HasInt.l0 k y0 y1 y2) (tenetref00_HasInt.l0 (k + 1) y0 y1 y2))
 | 0 => fun _ _ _ r h => by simp [tenetref00_HasInt.l0] at h
 | k + 1 => by
  have ih0 := tenetref00_HasInt.mono_l k
  ·intro y0 y1 y2
   unfold tenetref00_HasInt.l0
   repeat' first
   | (with_reducible exact ih0 _ _ _)
   | (with_reducible exact LeO.refl _)
   | (with_reducible exact LeO.none _)
   | (with_reducible refine LeO.ite ?_ ?_)
   | (with_reducible refine LeO.bind ?_ (fun _ => ?_))
   | exact ih0 _ _ _
   | exact LeO.none _
   | refine LeO.ite ?_ ?_
   | refine LeO.bind ?_ (fun _ => ?_)
theorem tenetref00_HasInt.mono : ∀ a0 a1 k, LeO (tenetref00_HasInt.f k a0 a1) (tenetref00_HasInt.f (k + 1) a0 a1) := by
 intro a0 a1 k
 have ih0 := tenetref00_HasInt.mono_l k
 unfold tenetref00_HasInt.f
 repeat' first
   | (with_reducible exact ih0 _ _ _)
   | (with_reducible exact LeO.refl _)
   | (with_reducible exact LeO.none _)
   | (with_reducible refine LeO.ite ?_ ?_)
   | (with_reducible refine LeO.bind ?_ (fun _ => ?_))
   | exact ih0 _ _ _
   | exact LeO.none _
   | refine LeO.ite ?_ ?_
   | refine LeO.bind ?_ (fun _ => ?_)
mutual
def tenetlaw02_GraphPairs.j0 : Nat → Int → List (S44) → Int → Int → Bool → Option (Bool)
 | 0, _, _, _, _, _ => none
 | k + 1, x0, x1, x7, x8, x46 => if x46 = true then ((tenetlaw02_awake.f k).bind fun t595 => (some t595)) else ((graph_Classes.f k x0 x1).bind fun bt596 => (if bt596.2 = 0 then ((tenetlaw02_at.f x7 0).bind fun bt601 => ((tenetlaw02_at.f x8 0).bind fun bt605 => ((graph_Follows.f k x0 x1 bt601.1 bt601.2 bt605.1 bt605.2).bind fun bt609 => ((tenetlaw02_at.f x8 0).bind fun bt611 => ((tenetlaw02_at.f x7 0).bind fun bt615 => ((graph_Follows.f k x0 x1 bt611.1 bt611.2 bt615.1 bt615.2).bind fun bt619 => (tenetlaw02_GraphPairs.l0 k x7 x8 bt596.1 bt609.1 bt609.2 bt619.1 bt619.2 false 0))))))) else ((tenetlaw02_awake.f k).bind fun t600 => (some t600))))
def tenetlaw02_GraphPairs.l0 : Nat → Int → Int → List (List Int) → Bool → Int → Bool → Int → Bool → Int → Option (Bool)
 | 0, _, _, _, _, _, _, _, _, _ => none
 | k + 1, x7, x8, x9, x11, x12, x13, x14, x15, x16 => if x16 < (x9.length : Int) then (if x15 = true then (tenetlaw02_GraphPairs.l0 k x7 x8 x9 x11 x12 x13 x14 true (wrap64 (x16 + 1))) else (if 0 ≤ x16 then ((tenetref00_HasInt.f k (rd_L8 x9 x16) x7).bind fun t622 => (if t622 ≥ 0 then ((tenetref00_HasInt.f k (rd_L8 x9 x16) x8).bind fun t624 => (tenetlaw02_GraphPairs.l0 k x7 x8 x9 x11 x12 x13 x14 (decide (t624 ≥ 0)) (wrap64 (x16 + 1)))) else (tenetlaw02_GraphPairs.l0 k x7 x8 x9 x11 x12 x13 x14 false (wrap64 (x16 + 1))))) else (none))) else (if x12 = 0 then (if x14 = 0 then (if x11 = true then (if (x15 == x13) = true then ((tenetlaw02_awake.f k).bind fun t625 => (some t625)) else (some false)) else (if (x15 == false) = true then ((tenetlaw02_awake.f k).bind fun t626 => (some t626)) else (some false))) else (some false)) else (some false))
end
def tenetlaw02_GraphPairs.f (k : Nat) (a0 : Int) (l1 : List (S44)) (a2_0 : Int) (a2_1 : Int) : Option (Bool) := (tenetlaw02_heavy.f k a0 l1 40).bind fun t594 => (if t594 = true then (tenetlaw02_GraphPairs.j0 k a0 l1 a2_0 a2_1 true) else (if a2_0 < 0 then (tenetlaw02_GraphPairs.j0 k a0 l1 a2_0 a2_1 true) else (if a2_1 < 0 then (tenetlaw02_GraphPairs.j0 k a0 l1 a2_0 a2_1 true) else (if a2_0 ≥ a0 then (tenetlaw02_GraphPairs.j0 k a0 l1 a2_0 a2_1 true) else (if a2_1 ≥ a0 then (tenetlaw02_GraphPairs.j0 k a0 l1 a2_0 a2_1 true) else (tenetlaw02_GraphPairs.j0 k a0 l1 a2_0 a2_1 (a2_0 == a2_1)))))))
theorem tenetlaw02_GraphPairs.mono_l : ∀ k, (∀ y0 y1 y2 y3 y4, LeO (tenetlaw02_GraphPairs.j0 k y0 y1 y2 y3 y4) (tenetlaw02_GraphPairs.j0 (k + 1) y0 y1 y2 y3 y4)) ∧ (∀ y0 y1 y2 y3 y4 y5 y6 y7 y8, LeO (tenetlaw02_GraphPairs.l0 k y0 y1 y2 y3 y4 y5 y6 y7 y8) (tenetlaw02_GraphPairs.l0 (k + 1) y0 y1 y2 y3 y4 y5 y6 y7 y8))
 | 0 => ⟨fun _ _ _ _ _ r h => by simp [tenetlaw02_GraphPairs.j0] at h, fun _ _ _ _ _ _ _ _ _ r h => by simp [tenetlaw02_GraphPairs.l0] at h⟩
 | k + 1 => by
  obtain ⟨ih0, ih1⟩ := tenetlaw02_GraphPairs.mono_l k
  refine ⟨?_, ?_⟩
  ·intro y0 y1 y2 y3 y4
   unfold tenetlaw02_GraphPairs.j0
   repeat' first
   | (with_reducible exact ih0 _ _ _ _ _)
   | (with_reducible exact ih1 _ _ _ _ _ _ _ _ _)
   | (with_reducible exact graph_Classes.mono _ _ _)
   | (with_reducible exact graph_Follows.mono _ _ _ _ _ _ _)
   | (with_reducible exact tenetlaw02_awake.mono _)
   | (with_reducible exact tenetlaw02_heavy.mono _ _ _ _)
   | (with_reducible exact tenetref00_HasInt.mono _ _ _)
   | (with_reducible exact LeO.refl _)
   | (with_reducible exact LeO.none _)
   | (with_reducible refine LeO.ite ?_ ?_)
   | (with_reducible refine LeO.bind ?_ (fun _ => ?_))
   | exact ih0 _ _ _ _ _
   | exact ih1 _ _ _ _ _ _ _ _ _
   | exact graph_Classes.mono _ _ _
   | exact graph_Follows.mono _ _ _ _ _ _ _
   | exact tenetlaw02_awake.mono _
   | exact tenetlaw02_heavy.mono _ _ _ _
   | exact tenetref00_HasInt.mono _ _ _
   | exact LeO.none _
   | refine LeO.ite ?_ ?_
   | refine LeO.bind ?_ (fun _ => ?_)
  ·intro y0 y1 y2 y3 y4 y5 y6 y7 y8
   unfold tenetlaw02_GraphPairs.l0
   repeat' first
   | (with_reducible exact ih0 _ _ _ _ _)
   | (with_reducible exact ih1 _ _ _ _ _ _ _ _ _)
   | (with_reducible exact graph_Classes.mono _ _ _)
   | (with_reducible exact graph_Follows.mono _ _ _ _ _ _ _)
   | (with_reducible exact tenetlaw02_awake.mono _)
   | (with_reducible exact tenetlaw02_heavy.mono _ _ _ _)
   | (with_reducible exact tenetref00_HasInt.mono _ _ _)
   | (with_reducible exact LeO.refl _)
   | (with_reducible exact LeO.none _)
   | (with_reducible refine LeO.ite ?_ ?_)
   | (with_reducible refine LeO.bind ?_ (fun _ => ?_))
   | exact ih0 _ _ _ _ _
   | exact ih1 _ _ _ _ _ _ _ _ _
   | exact graph_Classes.mono _ _ _
   | exact graph_Follows.mono _ _ _ _ _ _ _
   | exact tenetlaw02_awake.mono _
   | exact tenetlaw02_heavy.mono _ _ _ _
   | exact tenetref00_HasInt.mono _ _ _
   | exact LeO.none _
   | refine LeO.ite ?_ ?_
   | refine LeO.bind ?_ (fun _ => ?_)
theorem tenetlaw02_GraphPairs.mono : ∀ a0 a1 a2 a3 k, LeO (tenetlaw02_GraphPairs.f k a0 a1 a2 a3) (tenetlaw02_GraphPairs.f (k + 1) a0 a1 a2 a3) := by
 intro a0 a1 a2 a3 k
 obtain ⟨ih0, ih1⟩ := tenetlaw02_GraphPairs.mono_l k
 unfold tenetlaw02_GraphPairs.f
 repeat' first
   | (with_reducible exact ih0 _ _ _ _ _)
   | (with_reducible exact ih1 _ _ _ _ _ _ _ _ _)
   | (with_reducible exact graph_Classes.mono _ _ _)
   | (with_reducible exact graph_Follows.mono _ _ _ _ _ _ _)
   | (with_reducible exact tenetlaw02_awake.mono _)
   | (with_reducible exact tenetlaw02_heavy.mono _ _ _ _)
   | (with_reducible exact tenetref00_HasInt.mono _ _ _)
   | (with_reducible exact LeO.refl _)
   | (with_reducible exact LeO.none _)
   | (with_reducible refine LeO.ite ?_ ?_)
   | (with_reducible refine LeO.bind ?_ (fun _ => ?_))
   | exact ih0 _ _ _ _ _
   | exact ih1 _ _ _ _ _ _ _ _ _
   | exact graph_Classes.mono _ _ _
   | exact graph_Follows.mono _ _ _ _ _ _ _
   | exact tenetlaw02_awake.mono _
   | exact tenetlaw02_heavy.mono _ _ _ _
   | exact tenetref00_HasInt.mono _ _ _
   | exact LeO.none _
   | refine LeO.ite ?_ ?_
   | refine LeO.bind ?_ (fun _ => ?_)
end Go.Proofs.Ytegejpcglabhbaa.G
