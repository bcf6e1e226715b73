/- A part of this claim's proof: texts of its author, and printed ones, packed by a program of its author's. -/
import Derived.Test.YtegejpcglabhbaaCe2
import Derived.Test.YtegejpcglabhbaaCe14
import Derived.Test.YtegejpcglabhbaaCe12
import Derived.Test.YtegejpcglabhbaaCe25
import Derived.Test.YtegejpcglabhbaaCe11
namespace Go.Proofs.Ytegejpcglabhbaa.G
open Go.RowKit Go.Proofs.YtegejpcglabhbaaW.PrintWords Go.Proofs.YtegejpcglabhbaaW.PrintLast Go.Proofs.YtegejpcglabhbaaW.PrintMore
attribute [local go_sem] max2_int min2_int max_two min_two max_three min_three max_four min_four
set_option linter.unusedVariables false
set_option linter.unusedSimpArgs false
mutual
def tenetlaw02_GraphChains.j0 : Nat → Int → List Int → Bool → Int → Int → Option (Bool)
 | 0, _, _, _, _, _ => none
 | k + 1, x0, x1, x46, x389000, x389001 => if x46 = true then ((tenetlaw02_awake.f k).bind fun t389 => (some t389)) else (if 0 ≤ x0 then (if (x0 : Int).toNat ≤ 35184372088832 then (tenetlaw02_GraphChains.l0 k x0 x1 ([] : List (S44)) (List.replicate (x0 : Int).toNat 0) 0 x389000 x389001) else (none)) else (none))
def tenetlaw02_GraphChains.l0 : Nat → Int → List Int → List (S44) → List Int → Int → Int → Int → Option (Bool)
 | 0, _, _, _, _, _, _, _ => none
 | k + 1, x0, x1, x7, x8, x9, x389000, x389001 => if (wrap64 (x9 + 1)) < x0 then (if x9 < (x1.length : Int) then (if 0 ≤ x9 then (if (rd x1 x9) ≥ 0 then (tenetlaw02_GraphChains.j2 k x0 x1 x7 x8 x9 0 (decide ((rd x1 x9) ≤ 1000)) x389000 x389001) else (tenetlaw02_GraphChains.j2 k x0 x1 x7 x8 x9 0 false x389000 x389001)) else (none)) else (tenetlaw02_GraphChains.j2 k x0 x1 x7 x8 x9 0 false x389000 x389001)) else ((graph_Solve.f k x0 x7).bind fun bt422 => (if bt422.2 = 0 then ((tenetref00_EqInts.f k bt422.1 x8).bind fun t426 => (tenetlaw02_GraphChains.j3 k x0 x7 x8 (!t426) x389000 x389001)) else (tenetlaw02_GraphChains.j3 k x0 x7 x8 true x389000 x389001)))
def tenetlaw02_GraphChains.j2 : Nat → Int → List Int → List (S44) → List Int → Int → Int → Bool → Int → Int → Option (Bool)
 | 0, _, _, _, _, _, _, _, _, _ => none
 | k + 1, x0, x1, x7, x8, x9, x10, x73, x389000, x389001 => if x73 = true then (if 0 ≤ x9 then (if x9 < (x1.length : Int) then ((tenetlaw02_at.f x9 (rd x1 x9)).bind fun bt396 => ((tenetlaw02_at.f (wrap64 (x9 + 1)) 0).bind fun bt400 => (if x7.length < 2199023255552 then (if x9 < (x8.length : Int) then (if 0 ≤ (wrap64 (x9 + 1)) then (if (wrap64 (x9 + 1)) < (x8.length : Int) then (tenetlaw02_GraphChains.l0 k x0 x1 (x7 ++ [(⟨(⟨bt396.1, bt396.2⟩ : S41), (⟨bt400.1, bt400.2⟩ : S41)⟩ : S44)]) (x8.set ((wrap64 (x9 + 1)) : Int).toNat (wrap64 ((rd x8 x9) + (rd x1 x9)))) (wrap64 (x9 + 1)) x389000 x389001) else (none)) else (none)) else (none)) else (none)))) else (none)) else (none)) else ((tenetlaw02_at.f x9 x10).bind fun bt409 => ((tenetlaw02_at.f (wrap64 (x9 + 1)) 0).bind fun bt413 => (if x7.length < 2199023255552 then (if 0 ≤ x9 then (if x9 < (x8.length : Int) then (if 0 ≤ (wrap64 (x9 + 1)) then (if (wrap64 (x9 + 1)) < (x8.length : Int) then (tenetlaw02_GraphChains.l0 k x0 x1 (x7 ++ [(⟨(⟨bt409.1, bt409.2⟩ : S41), (⟨bt413.1, bt413.2⟩ : S41)⟩ : S44)]) (x8.set ((wrap64 (x9 + 1)) : Int).toNat (wrap64 ((rd x8 x9) + x10))) (wrap64 (x9 + 1)) x389000 x389001) else (none)) else (none)) else (none)) else (none)) else (none))))
def tenetlaw02_GraphChains.j3 : Nat → Int → List (S44) → List Int → Bool → Int → Int → Option (Bool)
 | 0, _, _, _, _, _, _ => none
 | k + 1, x0, x7, x8, x111, x389000, x389001 => if x111 = true then (some false) else (if 0 ≤ x389001 then (if x389001 < (x8.length : Int) then (if 0 ≤ x389000 then (if x389000 < (x8.length : Int) then ((tenetlaw02_at.f x389000 (mn (wrap64 ((rd x8 x389001) - (rd x8 x389000))) 1000)).bind fun bt429 => ((tenetlaw02_at.f x389001 0).bind fun bt433 => ((graph_Follows.f k x0 x7 bt429.1 bt429.2 bt433.1 bt433.2).bind fun bt437 => (if bt437.1 = true then (tenetlaw02_GraphChains.j4 k x0 x7 (mn (wrap64 ((rd x8 x389001) - (rd x8 x389000))) 1000) (bt437.2 != 0) x389000 x389001) else (tenetlaw02_GraphChains.j4 k x0 x7 (mn (wrap64 ((rd x8 x389001) - (rd x8 x389000))) 1000) true x389000 x389001))))) else (none)) else (none)) else (none)) else (none))
def tenetlaw02_GraphChains.j4 : Nat → Int → List (S44) → Int → Bool → Int → Int → Option (Bool)
 | 0, _, _, _, _, _, _ => none
 | k + 1, x0, x7, x13, x143, x389000, x389001 => if x143 = true then (some false) else (if x13 = 1000 then ((tenetlaw02_awake.f k).bind fun t439 => (some t439)) else ((tenetlaw02_at.f x389000 (wrap64 (x13 + 1))).bind fun bt440 => ((tenetlaw02_at.f x389001 0).bind fun bt444 => ((graph_Follows.f k x0 x7 bt440.1 bt440.2 bt444.1 bt444.2).bind fun bt448 => (if bt448.1 = true then (some false) else (if bt448.2 = 0 then ((tenetlaw02_awake.f k).bind fun t450 => (some t450)) else (some false)))))))
end
def tenetlaw02_GraphChains.f (k : Nat) (a0 : Int) (l1 : List Int) (a2_0 : Int) (a2_1 : Int) : Option (Bool) := if a0 < 2 then (tenetlaw02_GraphChains.j0 k a0 l1 true a2_0 a2_1) else (if a0 > 1200 then (tenetlaw02_GraphChains.j0 k a0 l1 true a2_0 a2_1) else (if (l1.length : Int) > 2000 then (tenetlaw02_GraphChains.j0 k a0 l1 true a2_0 a2_1) else (if a2_0 < 0 then (tenetlaw02_GraphChains.j0 k a0 l1 true a2_0 a2_1) else (if a2_1 ≥ a0 then (tenetlaw02_GraphChains.j0 k a0 l1 true a2_0 a2_1) else (tenetlaw02_GraphChains.j0 k a0 l1 (decide (a2_0 ≥ a2_1)) a2_0 a2_1)))))
theorem tenetlaw02_GraphChains.mono_l : ∀ k, (∀ y0 y1 y2 y3 y4, LeO (tenetlaw02_GraphChains.j0 k y0 y1 y2 y3 y4) (tenetlaw02_GraphChains.j0 (k + 1) y0 y1 y2 y3 y4)) ∧ (∀ y0 y1 y2 y3 y4 y5 y6, LeO (tenetlaw02_GraphChains.l0 k y0 y1 y2 y3 y4 y5 y6) (tenetlaw02_GraphChains.l0 (k + 1) y0 y1 y2 y3 y4 y5 y6)) ∧ (∀ y0 y1 y2 y3 y4 y5 y6 y7 y8, LeO (tenetlaw02_GraphChains.j2 k y0 y1 y2 y3 y4 y5 y6 y7 y8) (tenetlaw02_GraphChains.j2 (k + 1) y0 y1 y2 y3 y4 y5 y6 y7 y8)) ∧ (∀ y0 y1 y2 y3 y4 y5, LeO (tenetlaw02_GraphChains.j3 k y0 y1 y2 y3 y4 y5) (tenetlaw02_GraphChains.j3 (k + 1) y0 y1 y2 y3 y4 y5)) ∧ (∀ y0 y1 y2 y3 y4 y5, LeO (tenetlaw02_GraphChains.j4 k y0 y1 y2 y3 y4 y5) (tenetlaw02_GraphChains.j4 (k + 1) y0 y1 y2 y3 y4 y5))
 | 0 => ⟨fun _ _ _ _ _ r h => by simp [tenetlaw02_GraphChains.j0] at h, fun _ _ _ _ _ _ _ r h => by simp [tenetlaw02_GraphChains.l0] at h, fun _ _ _ _ _ _ _ _ _ r h => by simp [tenetlaw02_GraphChains.j2] at h, fun _ _ _ _ _ _ r h => by simp [tenetlaw02_GraphChains.j3] at h, fun _ _ _ _ _ _ r h => by simp [tenetlaw02_GraphChains.j4] at h⟩
 | k + 1 => by
  obtain ⟨ih0, ih1, ih2, ih3, ih4⟩ := tenetlaw02_GraphChains.mono_l k
  refine ⟨?_, ?_, ?_, ?_, ?_⟩
  ·intro y0 y1 y2 y3 y4
   unfold tenetlaw02_GraphChains.j0
   repeat' first
   | (with_reducible exact ih0 _ _ _ _ _)
   | (with_reducible exact ih1 _ _ _ _ _ _ _)
   | (with_reducible exact ih2 _ _ _ _ _ _ _ _ _)
   | (with_reducible exact ih3 _ _ _ _ _ _)
   | (with_reducible exact ih4 _ _ _ _ _ _)
   | (with_reducible exact graph_Follows.mono _ _ _ _ _ _ _)
   | (with_reducible exact graph_Solve.mono _ _ _)
   | (with_reducible exact tenetlaw02_awake.mono _)
   | (with_reducible exact tenetref00_EqInts.mono _ _ _)
   | (with_reducible exact LeO.refl _)
   | (with_reducible exact LeO.none _)
   | (with_reducible refine LeO.ite ?_ ?_)
   | (with_reducible refine LeO.bind ?_ (fun _ => ?_))
   | exact ih0 _ _ _ _ _
   | exact ih1 _ _ _ _ _ _ _
   | exact ih2 _ _ _ _ _ _ _ _ _
   | exact ih3 _ _ _ _ _ _
   | exact ih4 _ _ _ _ _ _
   | exact graph_Follows.mono _ _ _ _ _ _ _
   | exact graph_Solve.mono _ _ _
   | exact tenetlaw02_awake.mono _
   | exact tenetref00_EqInts.mono _ _ _
   | exact LeO.none _
   | refine LeO.ite ?_ ?_
   | refine LeO.bind ?_ (fun _ => ?_)
  ·intro y0 y1 y2 y3 y4 y5 y6
   unfold tenetlaw02_GraphChains.l0
   repeat' first
   | (with_reducible exact ih0 _ _ _ _ _)
   | (with_reducible exact ih1 _ _ _ _ _ _ _)
   | (with_reducible exact ih2 _ _ _ _ _ _ _ _ _)
   | (with_reducible exact ih3 _ _ _ _ _ _)
   | (with_reducible exact ih4 _ _ _ _ _ _)
   | (with_reducible exact graph_Follows.mono _ _ _ _ _ _ _)
   | (with_reducible exact graph_Solve.mono _ _ _)
   | (with_reducible exact tenetlaw02_awake.mono _)
   | (with_reducible exact tenetref00_EqInts.mono _ _ _)
   | (with_reducible exact LeO.refl _)
   | (with_reducible exact LeO.none _)
   | (with_reducible refine LeO.ite ?_ ?_)
   | (with_reducible refine LeO.bind ?_ (fun _ => ?_))
   | exact ih0 _ _ _ _ _
   | exact ih1 _ _ _ _ _ _ _
   | exact ih2 _ _ _ _ _ _ _ _ _
   | exact ih3 _ _ _ _ _ _
   | exact ih4 _ _ _ _ _ _
   | exact graph_Follows.mono _ _ _ _ _ _ _
   | exact graph_Solve.mono _ _ _
   | exact tenetlaw02_awake.mono _
   | exact tenetref00_EqInts.mono _ _ _
   | exact LeO.none _
   | refine LeO.ite ?_ ?_
   | refine LeO.bind ?_ (fun _ => ?_)
  ·intro y0 y1 y2 y3 y4 y5 y6 y7 y8
   unfold tenetlaw02_GraphChains.j2
   repeat' first
   | (with_reducible exact ih0 _ _ _ _ _)
   | (with_reducible exact ih1 _ _ _ _ _ _ _)
   | (with_reducible exact ih2 _ _ _ _ _ _ _ _ _)
   | (with_reducible exact ih3 _ _ _ _ _ _)
   | (with_reducible exact ih4 _ _ _ _ _ _)
   | (with_reducible exact graph_Follows.mono _ _ _ _ _ _ _)
   | (with_reducible exact graph_Solve.mono _ _ _)
   | (with_reducible exact tenetlaw02_awake.mono _)
   | (with_reducible exact tenetref00_EqInts.mono _ _ _)
   | (with_reducible exact LeO.refl _)
   | (with_reducible exact LeO.none _)
   | (with_reducible refine LeO.ite ?_ ?_)
   | (with_reducible refine LeO.bind ?_ (fun _ => ?_))
   | exact ih0 _ _ _ _ _
   | exact ih1 _ _ _ _ _ _ _
   | exact ih2 _ _ _ _ _ _ _ _ _
   | exact ih3 _ _ _ _ _ _
   | exact ih4 _ _ _ _ _ _
   | exact graph_Follows.mono _ _ _ _ _ _ _
   | exact graph_Solve.mono _ _ _
   | exact tenetlaw02_awake.mono _
   | exact tenetref00_EqInts.mono _ _ _
   | exact LeO.none _
   | refine LeO.ite ?_ ?_
   | refine LeO.bind ?_ (fun _ => ?_)
  ·intro y0 y1 y2 y3 y4 y5
   unfold tenetlaw02_GraphChains.j3
   repeat' first
   | (with_reducible exact ih0 _ _ _ _ _)
   | (with_reducible exact ih1 _ _ _ _ _ _ _)
   | (with_reducible exact ih2 _ _ _ _ _ _ _ _ _)
   | (with_reducible exact ih3 _ _ _ _ _ _)
   | (with_reducible exact ih4 _ _ _ _ _ _)
   | (with_reducible exact graph_Follows.mono _ _ _ _ _ _ _)
   | (with_reducible exact graph_Solve.mono _ _ _)
   | (with_reducible exact tenetlaw02_awake.mono _)
   | (with_reducible exact tenetref00_EqInts.mono _ _ _)
   | (with_reducible exact LeO.refl _)
   | (with_reducible exact LeO.none _)
   | (with_reducible refine LeO.ite ?_ ?_)
   | (with_reducible refine LeO.bind ?_ (fun _ => ?_))
   | exact ih0 _ _ _ _ _
   | exact ih1 _ _ _ _ _ _ _
   | exact ih2 _ _ _ _ _ _ _ _ _
   | exact ih3 _ _ _ _ _ _
   | exact ih4 _ _ _ _ _ _
   | exact graph_Follows.mono _ _ _ _ _ _ _
   | exact graph_Solve.mono _ _ _
   | exact tenetlaw02_awake.mono _
   | exact tenetref00_EqInts.mono _ _ _
   | exact LeO.none _
   | refine LeO.ite ?_ ?_
   | refine LeO.bind ?_ (fun _ => ?_)
  ·intro y0 y1 y2 y3 y4 y5
   unfold tenetlaw02_GraphChains.j4
   repeat' first
   | (with_reducible exact ih0 _ _ _ _ _)
   | (with_reducible exact ih1 _ _ _ _ _ _ _)
   | (with_reducible exact ih2 _ _ _ _ _ _ _ _ _)
   | (with_reducible exact ih3 _ _ _ _ _ _)
   | (with_reducible exact ih4 _ _ _ _ _ _)
   | (with_reducible exact graph_Follows.mono _ _ _ _ _ _ _)
   | (with_reducible exact graph_Solve.mono _ _ _)
   | (with_reducible exact tenetlaw02_awake.mono _)
   | (with_reducible exact tenetref00_EqInts.mono _ _ _)
   | (with_reducible exact LeO.refl _)
   | (with_reducible exact LeO.none _)
   | (with_reducible refine LeO.ite ?_ ?_)
   | (with_reducible refine LeO.bind ?_ (fun _ => ?_))
   | exact ih0 _ _ _ _ _
   | exact ih1 _ _ _ _ _ _ _
   | exact ih2 _ _ _ _ _ _ _ _ _
   | exact ih3 _ _ _ _ _ _
   | exact ih4 _ _ _ _ _ _
   | exact graph_Follows.mono _ _ _ _ _ _ _
   | exact graph_Solve.mono _ _ _
   | exact tenetlaw02_awake.mono _
   | exact tenetref00_EqInts.mono _ _ _
   | exact LeO.none _
   | refine LeO.ite ?_ ?_
   | refine LeO.bind ?_ (fun _ => ?_)
theorem tenetlaw02_GraphChains.mono : ∀ a0 a1 a2 a3 k, LeO (tenetlaw02_GraphChains.f k a0 a1 a2 a3) (tenetlaw02_GraphChains.f (k + 1) a0 a1 a2 a3) := by
 intro a0 a1 a2 a3 k
 obtain ⟨ih0, ih1, ih2, ih3, ih4⟩ := tenetlaw02_GraphChains.mono_l k
 unfold tenetlaw02_GraphChains.f
 repeat' first
   | (with_reducible exact ih0 _ _ _ _ _)
   | (with_reducible exact ih1 _ _ _ _ _ _ _)
   | (with_reducible exact ih2 _ _ _ _ _ _ _ _ _)
   | (with_reducible exact ih3 _ _ _ _ _ _)
   | (with_reducible exact ih4 _ _ _ _ _ _)
   | (with_reducible exact graph_Follows.mono _ _ _ _ _ _ _)
   | (with_reducible exact graph_Solve.mono _ _ _)
   | (with_reducible exact tenetlaw02_awake.mono _)
   | (with_reducible exact tenetref00_EqInts.mono _ _ _)
   | (with_reducible exact LeO.refl _)
   | (with_reducible exact LeO.none _)
   | (with_reducible refine LeO.ite ?_ ?_)
   | (with_reducible refine LeO.bind ?_ (fun _ => ?_))
   | exact ih0 _ _ _ _ _
   | exact ih1 _ _ _ _ _ _ _
   | exact ih2 _ _ _ _ _ _ _ _ _
   | exact ih3 _ _ _ _ _ _
   | exact ih4 _ _ _ _ _ _
   | exact graph_Follows.mono _ _ _ _ _ _ _
   | exact graph_Solve.mono _ _ _
   | exact tenetlaw02_awake.mono _
   | exact tenetref00_EqInts.mono _ _ _
   | exact LeO.none _
   | refine LeO.ite ?_ ?_
   | refine LeO.bind ?_ (fun _ => ?_)
end Go.Proofs.Ytegejpcglabhbaa.G
