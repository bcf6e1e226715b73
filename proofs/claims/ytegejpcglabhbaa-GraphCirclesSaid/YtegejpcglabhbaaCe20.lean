/- A part of this claim's proof: texts of its author, and printed ones, packed by a program of its author's. -/
import Derived.Test.YtegejpcglabhbaaCe2
namespace Go.Proofs.Ytegejpcglabhbaa.G
open Go.RowKit Go.Proofs.YtegejpcglabhbaaW.PrintWords Go.Proofs.YtegejpcglabhbaaW.PrintLast Go.Proofs.YtegejpcglabhbaaW.PrintMore
attribute [local go_sem] max2_int min2_int max_two min_two max_three min_three max_four min_four
set_option linter.unusedVariables false
set_option linter.unusedSimpArgs false
mutual
def tenetref02_parts.j0 : Nat → Int → List (S108) → Int → Int → Int → List (S96) → Int → List (S96) → Option ((List (S108)))
 | 0, _, _, _, _, _, _, _, _ => none
 | k + 1, x0, x2, x7, x8, x212000, x212001, x212002, x212003 => if x2.length < 5864062014805 then (tenetref02_parts.l0 k (x2 ++ [(⟨x0, x7, wrap64 (x212000 - x8)⟩ : S108)]) x7 x8 0 x212000 x212001 x212002 x212003) else (none)
def tenetref02_parts.l0 : Nat → List (S108) → Int → Int → Int → Int → List (S96) → Int → List (S96) → Option ((List (S108)))
 | 0, _, _, _, _, _, _, _, _ => none
 | k + 1, x2, x7, x8, x9, x212000, x212001, x212002, x212003 => if x9 < (x212001.length : Int) then (if 0 ≤ x9 then (if x2.length < 5864062014805 then (tenetref02_parts.l0 k (x2 ++ [(⟨(rd_T96 x212001 x9).f0, x7, wrap64 (((rd_T96 x212001 x9).f1) - x8)⟩ : S108)]) x7 x8 (wrap64 (x9 + 1)) x212000 x212001 x212002 x212003) else (none)) else (none)) else (some x2)
end
def tenetref02_parts.f (k : Nat) (a0 : Int) (a1_0 : Int) (l1_1 : List (S96)) (a1_2 : Int) (l1_3 : List (S96)) (l2 : List (S108)) : Option ((List (S108))) := if (l1_3.length : Int) = 1 then (if 0 < (l1_3.length : Int) then (tenetref02_parts.j0 k a0 l2 ((rd_T96 l1_3 0).f0) ((rd_T96 l1_3 0).f1) a1_0 l1_1 a1_2 l1_3) else (none)) else (tenetref02_parts.j0 k a0 l2 a0 a1_2 a1_0 l1_1 a1_2 l1_3)
theorem tenetref02_parts.mono_l : ∀ k, (∀ y0 y1 y2 y3 y4 y5 y6 y7, LeO (tenetref02_parts.j0 k y0 y1 y2 y3 y4 y5 y6 y7) (tenetref02_parts.j0 (k + 1) y0 y1 y2 y3 y4 y5 y6 y7)) ∧ (∀ y0 y1 y2 y3 y4 y5 y6 y7, LeO (tenetref02_parts.l0 k y0 y1 y2 y3 y4 y5 y6 y7) (tenetref02_parts.l0 (k + 1) y0 y1 y2 y3 y4 y5 y6 y7))
 | 0 => ⟨fun _ _ _ _ _ _ _ _ r h => by simp [tenetref02_parts.j0] at h, fun _ _ _ _ _ _ _ _ r h => by simp [tenetref02_parts.l0] at h⟩
 | k + 1 => by
  obtain ⟨ih0, ih1⟩ := tenetref02_parts.mono_l k
  refine ⟨?_, ?_⟩
  ·intro y0 y1 y2 y3 y4 y5 y6 y7
   unfold tenetref02_parts.j0
   repeat' first
   | (with_reducible exact ih0 _ _ _ _ _ _ _ _)
   | (with_reducible exact ih1 _ _ _ _ _ _ _ _)
   | (with_reducible exact LeO.refl _)
   | (with_reducible exact LeO.none _)
   | (with_reducible refine LeO.ite ?_ ?_)
   | (with_reducible refine LeO.bind ?_ (fun _ => ?_))
   | exact ih0 _ _ _ _ _ _ _ _
   | exact ih1 _ _ _ _ _ _ _ _
   | exact LeO.none _
   | refine LeO.ite ?_ ?_
   | refine LeO.bind ?_ (fun _ => ?_)
  ·intro y0 y1 y2 y3 y4 y5 y6 y7
   unfold tenetref02_parts.l0
   repeat' first
   | (with_reducible exact ih0 _ _ _ _ _ _ _ _)
   | (with_reducible exact ih1 _ _ _ _ _ _ _ _)
   | (with_reducible exact LeO.refl _)
   | (with_reducible exact LeO.none _)
   | (with_reducible refine LeO.ite ?_ ?_)
   | (with_reducible refine LeO.bind ?_ (fun _ => ?_))
   | exact ih0 _ _ _ _ _ _ _ _
   | exact ih1 _ _ _ _ _ _ _ _
   | exact LeO.none _
   | refine LeO.ite ?_ ?_
   | refine LeO.bind ?_ (fun _ => ?_)
theorem tenetref02_parts.mono : ∀ a0 a1 a2 a3 a4 a5 k, LeO (tenetref02_parts.f k a0 a1 a2 a3 a4 a5) (tenetref02_parts.f (k + 1) a0 a1 a2 a3 a4 a5) := by
 intro a0 a1 a2 a3 a4 a5 k
 obtain ⟨ih0, ih1⟩ := tenetref02_parts.mono_l k
 unfold tenetref02_parts.f
 repeat' first
   | (with_reducible exact ih0 _ _ _ _ _ _ _ _)
   | (with_reducible exact ih1 _ _ _ _ _ _ _ _)
   | (with_reducible exact LeO.refl _)
   | (with_reducible exact LeO.none _)
   | (with_reducible refine LeO.ite ?_ ?_)
   | (with_reducible refine LeO.bind ?_ (fun _ => ?_))
   | exact ih0 _ _ _ _ _ _ _ _
   | exact ih1 _ _ _ _ _ _ _ _
   | exact LeO.none _
   | refine LeO.ite ?_ ?_
   | refine LeO.bind ?_ (fun _ => ?_)
mutual
def tenetref02_edges.l0 : Nat → Int → List (S44) → List (S108) → Int → Option ((List (S108)))
 | 0, _, _, _, _ => none
 | k + 1, x0, x1, x5, x6 => if x6 < x0 then (if x5.length < 5864062014805 then (tenetref02_edges.l0 k x0 x1 (x5 ++ [(⟨x0, x6, 0⟩ : S108)]) (wrap64 (x6 + 1))) else (none)) else (tenetref02_edges.l1 k x0 x1 x5 0)
def tenetref02_edges.l1 : Nat → Int → List (S44) → List (S108) → Int → Option ((List (S108)))
 | 0, _, _, _, _ => none
 | k + 1, x0, x1, x5, x7 => if x7 < (x1.length : Int) then (if 0 ≤ x7 then ((tenetref02_parts.f k x0 ((rd_T44 x1 x7).f0.f0) ((rd_T44 x1 x7).f0.f1) ((rd_T44 x1 x7).f1.f0) ((rd_T44 x1 x7).f1.f1) x5).bind fun t226 => (tenetref02_edges.l1 k x0 x1 t226 (wrap64 (x7 + 1)))) else (none)) else (some x5)
end
def tenetref02_edges.f (k : Nat) (a0 : Int) (l1 : List (S44)) : Option ((List (S108))) := tenetref02_edges.l0 k a0 l1 ([] : List (S108)) 0
theorem tenetref02_edges.mono_l : ∀ k, (∀ y0 y1 y2 y3, LeO (tenetref02_edges.l0 k y0 y1 y2 y3) (tenetref02_edges.l0 (k + 1) y0 y1 y2 y3)) ∧ (∀ y0 y1 y2 y3, LeO (tenetref02_edges.l1 k y0 y1 y2 y3) (tenetref02_edges.l1 (k + 1) y0 y1 y2 y3))
 | 0 => ⟨fun _ _ _ _ r h => by simp [tenetref02_edges.l0] at h, fun _ _ _ _ r h => by simp [tenetref02_edges.l1] at h⟩
 | k + 1 => by
  obtain ⟨ih0, ih1⟩ := tenetref02_edges.mono_l k
  refine ⟨?_, ?_⟩
  ·intro y0 y1 y2 y3
   unfold tenetref02_edges.l0
   repeat' first
   | (with_reducible exact ih0 _ _ _ _)
   | (with_reducible exact ih1 _ _ _ _)
   | (with_reducible exact tenetref02_parts.mono _ _ _ _ _ _ _)
   | (with_reducible exact LeO.refl _)
   | (with_reducible exact LeO.none _)
   | (with_reducible refine LeO.ite ?_ ?_)
   | (with_reducible refine LeO.bind ?_ (fun _ => ?_))
   | exact ih0 _ _ _ _
   | exact ih1 _ _ _ _
   | exact tenetref02_parts.mono _ _ _ _ _ _ _
   | exact LeO.none _
   | refine LeO.ite ?_ ?_
   | refine LeO.bind ?_ (fun _ => ?_)
  ·intro y0 y1 y2 y3
   unfold tenetref02_edges.l1
   repeat' first
   | (with_reducible exact ih0 _ _ _ _)
   | (with_reducible exact ih1 _ _ _ _)
   | (with_reducible exact tenetref02_parts.mono _ _ _ _ _ _ _)
   | (with_reducible exact LeO.refl _)
   | (with_reducible exact LeO.none _)
   | (with_reducible refine LeO.ite ?_ ?_)
   | (with_reducible refine LeO.bind ?_ (fun _ => ?_))
   | exact ih0 _ _ _ _
   | exact ih1 _ _ _ _
   | exact tenetref02_parts.mono _ _ _ _ _ _ _
   | exact LeO.none _
   | refine LeO.ite ?_ ?_
   | refine LeO.bind ?_ (fun _ => ?_)
theorem tenetref02_edges.mono : ∀ a0 a1 k, LeO (tenetref02_edges.f k a0 a1) (tenetref02_edges.f (k + 1) a0 a1) := by
 intro a0 a1 k
 obtain ⟨ih0, ih1⟩ := tenetref02_edges.mono_l k
 unfold tenetref02_edges.f
 repeat' first
   | (with_reducible exact ih0 _ _ _ _)
   | (with_reducible exact ih1 _ _ _ _)
   | (with_reducible exact tenetref02_parts.mono _ _ _ _ _ _ _)
   | (with_reducible exact LeO.refl _)
   | (with_reducible exact LeO.none _)
   | (with_reducible refine LeO.ite ?_ ?_)
   | (with_reducible refine LeO.bind ?_ (fun _ => ?_))
   | exact ih0 _ _ _ _
   | exact ih1 _ _ _ _
   | exact tenetref02_parts.mono _ _ _ _ _ _ _
   | exact LeO.none _
   | refine LeO.ite ?_ ?_
   | refine LeO.bind ?_ (fun _ => ?_)
end Go.Proofs.Ytegejpcglabhbaa.G
