/- A part of this claim's proof: texts of its author, and printed ones, packed by a program of its author's. -/
import Derived.Test.YtegejpcglabhbaaCe2
import Derived.Test.YtegejpcglabhbaaCe22
import Derived.Test.YtegejpcglabhbaaCe12
import Derived.Test.YtegejpcglabhbaaCe14
import Derived.Test.YtegejpcglabhbaaCe24
import Derived.Test.YtegejpcglabhbaaCe37
namespace Go.Proofs.Ytegejpcglabhbaa.G
open Go.RowKit Go.Proofs.YtegejpcglabhbaaW.PrintWords Go.Proofs.YtegejpcglabhbaaW.PrintLast Go.Proofs.YtegejpcglabhbaaW.PrintMore
attribute [local go_sem] max2_int min2_int max_two min_two max_three min_three max_four min_four
set_option linter.unusedVariables false
set_option linter.unusedSimpArgs false
def tenetref02_without.l0 : Nat → List (S44) → Int → List (S44) → Int → Option ((List (S44)))
 | 0, _, _, _, _ => none
 | k + 1, x0, x1, x5, x6 => if x6 < (x0.length : Int) then (if x6 = x1 then (tenetref02_without.l0 k x0 x1 x5 (wrap64 (x6 + 1))) else (if 0 ≤ x6 then (if x5.length < 2199023255552 then (tenetref02_without.l0 k x0 x1 (x5 ++ [(⟨(⟨(rd_T44 x0 x6).f0.f0, (rd_T44 x0 x6).f0.f1⟩ : S41), (⟨(rd_T44 x0 x6).f1.f0, (rd_T44 x0 x6).f1.f1⟩ : S41)⟩ : S44)]) (wrap64 (x6 + 1))) else (none)) else (none))) else (some x5)
def tenetref02_without.f (k : Nat) (l0 : List (S44)) (a1 : Int) : Option ((List (S44))) := tenetref02_without.l0 k l0 a1 ([] : List (S44)) 0
theorem tenetref02_without.mono_l : ∀ k, (∀ y0 y1 y2 y3, LeO (tenetref02_without.l0 k y0 y1 y2 y3) (tenetref02_without.l0 (k + 1) y0 y1 y2 y3))
 | 0 => fun _ _ _ _ r h => by simp [tenetref02_without.l0] at h
 | k + 1 => by
  have ih0 := tenetref02_without.mono_l k
  ·intro y0 y1 y2 y3
   unfold tenetref02_without.l0
   repeat' first
   | (with_reducible exact ih0 _ _ _ _)
   | (with_reducible exact LeO.refl _)
   | (with_reducible exact LeO.none _)
   | (with_reducible refine LeO.ite ?_ ?_)
   | (with_reducible refine LeO.bind ?_ (fun _ => ?_))
   | exact ih0 _ _ _ _
   | exact LeO.none _
   | refine LeO.ite ?_ ?_
   | refine LeO.bind ?_ (fun _ => ?_)
theorem tenetref02_without.mono : ∀ a0 a1 k, LeO (tenetref02_without.f k a0 a1) (tenetref02_without.f (k + 1) a0 a1) := by
 intro a0 a1 k
 have ih0 := tenetref02_without.mono_l k
 unfold tenetref02_without.f
 repeat' first
   | (with_reducible exact ih0 _ _ _ _)
   | (with_reducible exact LeO.refl _)
   | (with_reducible exact LeO.none _)
   | (with_reducible refine LeO.ite ?_ ?_)
   | (with_reducible refine LeO.bind ?_ (fun _ => ?_))
   | exact ih0 _ _ _ _
   | exact LeO.none _
   | refine LeO.ite ?_ ?_
   | refine LeO.bind ?_ (fun _ => ?_)
mutual
def tenetref02_Core.l0 : Nat → Int → List (S44) → List Int → List (S44) → Int → Option (Bool)
 | 0, _, _, _, _, _ => none
 | k + 1, x0, x1, x2, x7, x8 => if x8 < (x2.length : Int) then (if 0 ≤ x8 then (if (rd x2 x8) < 0 then (some false) else (if (rd x2 x8) ≥ (x1.length : Int) then (some false) else (if x8 > 0 then (if 0 ≤ (wrap64 (x8 - 1)) then (if (wrap64 (x8 - 1)) < (x2.length : Int) then (if (rd x2 x8) ≤ (rd x2 (wrap64 (x8 - 1))) then (some false) else (if 0 ≤ (rd x2 x8) then (if (rd x2 x8) < (x1.length : Int) then (if x7.length < 2199023255552 then (tenetref02_Core.l0 k x0 x1 x2 (x7 ++ [(⟨(⟨(rd_T44 x1 (rd x2 x8)).f0.f0, (rd_T44 x1 (rd x2 x8)).f0.f1⟩ : S41), (⟨(rd_T44 x1 (rd x2 x8)).f1.f0, (rd_T44 x1 (rd x2 x8)).f1.f1⟩ : S41)⟩ : S44)]) (wrap64 (x8 + 1))) else (none)) else (none)) else (none))) else (none)) else (none)) else (if 0 ≤ (rd x2 x8) then (if (rd x2 x8) < (x1.length : Int) then (if x7.length < 2199023255552 then (tenetref02_Core.l0 k x0 x1 x2 (x7 ++ [(⟨(⟨(rd_T44 x1 (rd x2 x8)).f0.f0, (rd_T44 x1 (rd x2 x8)).f0.f1⟩ : S41), (⟨(rd_T44 x1 (rd x2 x8)).f1.f0, (rd_T44 x1 (rd x2 x8)).f1.f1⟩ : S41)⟩ : S44)]) (wrap64 (x8 + 1))) else (none)) else (none)) else (none))))) else (none)) else ((tenetref02_solve.f k x0 x7).bind fun bt866 => (if bt866.2 = true then (some false) else (tenetref02_Core.l1 k x0 x7 0)))
def tenetref02_Core.l1 : Nat → Int → List (S44) → Int → Option (Bool)
 | 0, _, _, _ => none
 | k + 1, x0, x7, x11 => if x11 < (x7.length : Int) then ((tenetref02_without.f k x7 x11).bind fun t870 => ((tenetref02_solve.f k x0 t870).bind fun bt873 => (if bt873.2 = true then (tenetref02_Core.l1 k x0 x7 (wrap64 (x11 + 1))) else (some false)))) else (some true)
end
def tenetref02_Core.f (k : Nat) (a0 : Int) (l1 : List (S44)) (l2 : List Int) : Option (Bool) := tenetref02_Core.l0 k a0 l1 l2 ([] : List (S44)) 0
theorem tenetref02_Core.mono_l : ∀ k, (∀ y0 y1 y2 y3 y4, LeO (tenetref02_Core.l0 k y0 y1 y2 y3 y4) (tenetref02_Core.l0 (k + 1) y0 y1 y2 y3 y4)) ∧ (∀ y0 y1 y2, LeO (tenetref02_Core.l1 k y0 y1 y2) (tenetref02_Core.l1 (k + 1) y0 y1 y2))
 | 0 => ⟨fun _ _ _ _ _ r h => by simp [tenetref02_Core.l0] at h, fun _ _ _ r h => by simp [tenetref02_Core.l1] at h⟩
 | k + 1 => by
  obtain ⟨ih0, ih1⟩ := tenetref02_Core.mono_l k
  refine ⟨?_, ?_⟩
  ·intro y0 y1 y2 y3 y4
   unfold tenetref02_Core.l0
   repeat' first
   | (with_reducible exact ih0 _ _ _ _ _)
   | (with_reducible exact ih1 _ _ _)
   | (with_reducible exact tenetref02_solve.mono _ _ _)
   | (with_reducible exact tenetref02_without.mono _ _ _)
   | (with_reducible exact LeO.refl _)
   | (with_reducible exact LeO.none _)
   | (with_reducible refine LeO.ite ?_ ?_)
   | (with_reducible refine LeO.bind ?_ (fun _ => ?_))
   | exact ih0 _ _ _ _ _
   | exact ih1 _ _ _
   | exact tenetref02_solve.mono _ _ _
   | exact tenetref02_without.mono _ _ _
   | exact LeO.none _
   | refine LeO.ite ?_ ?_
   | refine LeO.bind ?_ (fun _ => ?_)
  ·intro y0 y1 y2
   unfold tenetref02_Core.l1
   repeat' first
   | (with_reducible exact ih0 _ _ _ _ _)
   | (with_reducible exact ih1 _ _ _)
   | (with_reducible exact tenetref02_solve.mono _ _ _)
   | (with_reducible exact tenetref02_without.mono _ _ _)
   | (with_reducible exact LeO.refl _)
   | (with_reducible exact LeO.none _)
   | (with_reducible refine LeO.ite ?_ ?_)
   | (with_reducible refine LeO.bind ?_ (fun _ => ?_))
   | exact ih0 _ _ _ _ _
   | exact ih1 _ _ _
   | exact tenetref02_solve.mono _ _ _
   | exact tenetref02_without.mono _ _ _
   | exact LeO.none _
   | refine LeO.ite ?_ ?_
   | refine LeO.bind ?_ (fun _ => ?_)
theorem tenetref02_Core.mono : ∀ a0 a1 a2 k, LeO (tenetref02_Core.f k a0 a1 a2) (tenetref02_Core.f (k + 1) a0 a1 a2) := by
 intro a0 a1 a2 k
 obtain ⟨ih0, ih1⟩ := tenetref02_Core.mono_l k
 unfold tenetref02_Core.f
 repeat' first
   | (with_reducible exact ih0 _ _ _ _ _)
   | (with_reducible exact ih1 _ _ _)
   | (with_reducible exact tenetref02_solve.mono _ _ _)
   | (with_reducible exact tenetref02_without.mono _ _ _)
   | (with_reducible exact LeO.refl _)
   | (with_reducible exact LeO.none _)
   | (with_reducible refine LeO.ite ?_ ?_)
   | (with_reducible refine LeO.bind ?_ (fun _ => ?_))
   | exact ih0 _ _ _ _ _
   | exact ih1 _ _ _
   | exact tenetref02_solve.mono _ _ _
   | exact tenetref02_without.mono _ _ _
   | exact LeO.none _
   | refine LeO.ite ?_ ?_
   | refine LeO.bind ?_ (fun _ => ?_)
def tenetlaw02_GraphExplains.j0 : Nat → Int → List (S44) → List Int → Bool → Bool → Option (Bool)
 | 0, _, _, _, _, _ => none
 | k + 1, x0, x1, x5, x6, x52 => if x52 = true then (some false) else (if x6 = true then ((tenetref02_Core.f k x0 x1 x5).bind fun t890 => (if t890 = true then ((tenetlaw02_awake.f k).bind fun t891 => (some t891)) else (some false))) else (if (x5.length : Int) = 0 then ((tenetlaw02_awake.f k).bind fun t892 => (some t892)) else (some false)))
def tenetlaw02_GraphExplains.f (k : Nat) (a0 : Int) (l1 : List (S44)) : Option (Bool) := (tenetlaw02_heavy.f k a0 l1 60).bind fun t877 => (if t877 = true then ((tenetlaw02_awake.f k).bind fun t878 => (some t878)) else ((graph_Explain.f k a0 l1).bind fun bt879 => ((tenetref02_Valid.f k a0 l1).bind fun t884 => (if t884 = true then ((tenetref02_Solve.f k a0 l1).bind fun bt886 => (if bt879.2.2 = 0 then (tenetlaw02_GraphExplains.j0 k a0 l1 bt879.1 bt879.2.1 (bt879.2.1 != (bt886.2 == 20))) else (tenetlaw02_GraphExplains.j0 k a0 l1 bt879.1 bt879.2.1 true))) else (if bt879.2.2 = 4 then (if (bt879.1.length : Int) = 0 then (if bt879.2.1 = true then (some false) else ((tenetlaw02_awake.f k).bind fun t885 => (some t885))) else (some false)) else (some false))))))
theorem tenetlaw02_GraphExplains.mono_l : ∀ k, (∀ y0 y1 y2 y3 y4, LeO (tenetlaw02_GraphExplains.j0 k y0 y1 y2 y3 y4) (tenetlaw02_GraphExplains.j0 (k + 1) y0 y1 y2 y3 y4))
 | 0 => fun _ _ _ _ _ r h => by simp [tenetlaw02_GraphExplains.j0] at h
 | k + 1 => by
  have ih0 := tenetlaw02_GraphExplains.mono_l k
  ·intro y0 y1 y2 y3 y4
   unfold tenetlaw02_GraphExplains.j0
   repeat' first
   | (with_reducible exact ih0 _ _ _ _ _)
   | (with_reducible exact graph_Explain.mono _ _ _)
   | (with_reducible exact tenetlaw02_awake.mono _)
   | (with_reducible exact tenetlaw02_heavy.mono _ _ _ _)
   | (with_reducible exact tenetref02_Core.mono _ _ _ _)
   | (with_reducible exact tenetref02_Solve.mono _ _ _)
   | (with_reducible exact tenetref02_Valid.mono _ _ _)
   | (with_reducible exact LeO.refl _)
   | (with_reducible exact LeO.none _)
   | (with_reducible refine LeO.ite ?_ ?_)
   | (with_reducible refine LeO.bind ?_ (fun _ => ?_))
   | exact ih0 _ _ _ _ _
   | exact graph_Explain.mono _ _ _
   | exact tenetlaw02_awake.mono _
   | exact tenetlaw02_heavy.mono _ _ _ _
   | exact tenetref02_Core.mono _ _ _ _
   | exact tenetref02_Solve.mono _ _ _
   | exact tenetref02_Valid.mono _ _ _
   | exact LeO.none _
   | refine LeO.ite ?_ ?_
   | refine LeO.bind ?_ (fun _ => ?_)
theorem tenetlaw02_GraphExplains.mono : ∀ a0 a1 k, LeO (tenetlaw02_GraphExplains.f k a0 a1) (tenetlaw02_GraphExplains.f (k + 1) a0 a1) := by
 intro a0 a1 k
 have ih0 := tenetlaw02_GraphExplains.mono_l k
 unfold tenetlaw02_GraphExplains.f
 repeat' first
   | (with_reducible exact ih0 _ _ _ _ _)
   | (with_reducible exact graph_Explain.mono _ _ _)
   | (with_reducible exact tenetlaw02_awake.mono _)
   | (with_reducible exact tenetlaw02_heavy.mono _ _ _ _)
   | (with_reducible exact tenetref02_Core.mono _ _ _ _)
   | (with_reducible exact tenetref02_Solve.mono _ _ _)
   | (with_reducible exact tenetref02_Valid.mono _ _ _)
   | (with_reducible exact LeO.refl _)
   | (with_reducible exact LeO.none _)
   | (with_reducible refine LeO.ite ?_ ?_)
   | (with_reducible refine LeO.bind ?_ (fun _ => ?_))
   | exact ih0 _ _ _ _ _
   | exact graph_Explain.mono _ _ _
   | exact tenetlaw02_awake.mono _
   | exact tenetlaw02_heavy.mono _ _ _ _
   | exact tenetref02_Core.mono _ _ _ _
   | exact tenetref02_Solve.mono _ _ _
   | exact tenetref02_Valid.mono _ _ _
   | exact LeO.none _
   | refine LeO.ite ?_ ?_
   | refine LeO.bind ?_ (fun _ => ?_)
end Go.Proofs.Ytegejpcglabhbaa.G
