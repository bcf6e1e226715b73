/- A part of this claim's proof: texts of its author, and printed ones, packed by a program of its author's. -/
import Derived.Test.YtegejpcglabhbaaCe2
import Derived.Test.YtegejpcglabhbaaCe20
import Derived.Test.YtegejpcglabhbaaCe21
import Derived.Test.YtegejpcglabhbaaCe12
import Derived.Test.YtegejpcglabhbaaCe18
namespace Go.Proofs.Ytegejpcglabhbaa.G
open Go.RowKit Go.Proofs.YtegejpcglabhbaaW.PrintWords Go.Proofs.YtegejpcglabhbaaW.PrintLast Go.Proofs.YtegejpcglabhbaaW.PrintMore
attribute [local go_sem] max2_int min2_int max_two min_two max_three min_three max_four min_four
set_option linter.unusedVariables false
set_option linter.unusedSimpArgs false
mutual
def tenetref02_solve.j0 : Nat → Int → List (S94) → Bool → Option (List Int × Bool)
 | 0, _, _, _ => none
 | k + 1, x0, x6, x28 => if x28 = true then (some (([] : List Int), false)) else (if 0 ≤ x0 then (if (x0 : Int).toNat ≤ 35184372088832 then (tenetref02_solve.l0 k x0 x6 (List.replicate (x0 : Int).toNat 0) 0) else (none)) else (none))
def tenetref02_solve.l0 : Nat → Int → List (S94) → List Int → Int → Option (List Int × Bool)
 | 0, _, _, _, _ => none
 | k + 1, x0, x6, x8, x9 => if x9 < x0 then (if 0 ≤ x9 then (if x9 < (x6.length : Int) then (if x9 < (x8.length : Int) then (tenetref02_solve.l0 k x0 x6 (x8.set (x9 : Int).toNat ((rd_T94 x6 x9).f1)) (wrap64 (x9 + 1))) else (none)) else (none)) else (none)) else (some (x8, true))
end
def tenetref02_solve.f (k : Nat) (a0 : Int) (l1 : List (S44)) : Option (List Int × Bool) := (tenetref02_edges.f k a0 l1).bind fun t229 => ((tenetref02_longest.f k a0 t229 a0).bind fun bt232 => (if bt232.2 = true then (if 0 ≤ a0 then (if a0 < (bt232.1.length : Int) then (tenetref02_solve.j0 k a0 bt232.1 (decide (((rd_T94 bt232.1 a0).f1) > 0))) else (none)) else (none)) else (tenetref02_solve.j0 k a0 bt232.1 true)))
theorem tenetref02_solve.mono_l : ∀ k, (∀ y0 y1 y2, LeO (tenetref02_solve.j0 k y0 y1 y2) (tenetref02_solve.j0 (k + 1) y0 y1 y2)) ∧ (∀ y0 y1 y2 y3, LeO (tenetref02_solve.l0 k y0 y1 y2 y3) (tenetref02_solve.l0 (k + 1) y0 y1 y2 y3))
 | 0 => ⟨fun _ _ _ r h => by simp [tenetref02_solve.j0] at h, fun _ _ _ _ r h => by simp [tenetref02_solve.l0] at h⟩
 | k + 1 => by
  obtain ⟨ih0, ih1⟩ := tenetref02_solve.mono_l k
  refine ⟨?_, ?_⟩
  ·intro y0 y1 y2
   unfold tenetref02_solve.j0
   repeat' first
   | (with_reducible exact ih0 _ _ _)
   | (with_reducible exact ih1 _ _ _ _)
   | (with_reducible exact tenetref02_edges.mono _ _ _)
   | (with_reducible exact tenetref02_longest.mono _ _ _ _)
   | (with_reducible exact LeO.refl _)
   | (with_reducible exact LeO.none _)
   | (with_reducible refine LeO.ite ?_ ?_)
   | (with_reducible refine LeO.bind ?_ (fun _ => ?_))
   | exact ih0 _ _ _
   | exact ih1 _ _ _ _
   | exact tenetref02_edges.mono _ _ _
   | exact tenetref02_longest.mono _ _ _ _
   | exact LeO.none _
   | refine LeO.ite ?_ ?_
   | refine LeO.bind ?_ (fun _ => ?_)
  ·intro y0 y1 y2 y3
   unfold tenetref02_solve.l0
   repeat' first
   | (with_reducible exact ih0 _ _ _)
   | (with_reducible exact ih1 _ _ _ _)
   | (with_reducible exact tenetref02_edges.mono _ _ _)
   | (with_reducible exact tenetref02_longest.mono _ _ _ _)
   | (with_reducible exact LeO.refl _)
   | (with_reducible exact LeO.none _)
   | (with_reducible refine LeO.ite ?_ ?_)
   | (with_reducible refine LeO.bind ?_ (fun _ => ?_))
   | exact ih0 _ _ _
   | exact ih1 _ _ _ _
   | exact tenetref02_edges.mono _ _ _
   | exact tenetref02_longest.mono _ _ _ _
   | exact LeO.none _
   | refine LeO.ite ?_ ?_
   | refine LeO.bind ?_ (fun _ => ?_)
theorem tenetref02_solve.mono : ∀ a0 a1 k, LeO (tenetref02_solve.f k a0 a1) (tenetref02_solve.f (k + 1) a0 a1) := by
 intro a0 a1 k
 obtain ⟨ih0, ih1⟩ := tenetref02_solve.mono_l k
 unfold tenetref02_solve.f
 repeat' first
   | (with_reducible exact ih0 _ _ _)
   | (with_reducible exact ih1 _ _ _ _)
   | (with_reducible exact tenetref02_edges.mono _ _ _)
   | (with_reducible exact tenetref02_longest.mono _ _ _ _)
   | (with_reducible exact LeO.refl _)
   | (with_reducible exact LeO.none _)
   | (with_reducible refine LeO.ite ?_ ?_)
   | (with_reducible refine LeO.bind ?_ (fun _ => ?_))
   | exact ih0 _ _ _
   | exact ih1 _ _ _ _
   | exact tenetref02_edges.mono _ _ _
   | exact tenetref02_longest.mono _ _ _ _
   | exact LeO.none _
   | refine LeO.ite ?_ ?_
   | refine LeO.bind ?_ (fun _ => ?_)
mutual
def tenetref02_Classes.l0 : Nat → Int → List Int → List (S108) → List (S108) → Int → Option ((List (List Int)) × Int)
 | 0, _, _, _, _, _ => none
 | k + 1, x0, x6, x8, x9, x10 => if x10 < (x8.length : Int) then (if 0 ≤ x10 then (if x9.length < 5864062014805 then (tenetref02_Classes.l0 k x0 x6 x8 (x9 ++ [(⟨(rd_T108 x8 x10).f1, (rd_T108 x8 x10).f0, wrap64 (-((rd_T108 x8 x10).f2))⟩ : S108)]) (wrap64 (x10 + 1))) else (none)) else (none)) else (if 0 ≤ x0 then (if (x0 : Int).toNat ≤ 281474976710656 then (tenetref02_Classes.l1 k x0 x6 x8 x9 (List.replicate (x0 : Int).toNat false) ([] : List (List Int)) 0) else (none)) else (none))
def tenetref02_Classes.l1 : Nat → Int → List Int → List (S108) → List (S108) → List Bool → List (List Int) → Int → Option ((List (List Int)) × Int)
 | 0, _, _, _, _, _, _, _ => none
 | k + 1, x0, x6, x8, x9, x11, x12, x13 => if x13 < x0 then (if 0 ≤ x13 then (if x13 < (x11.length : Int) then (if rdOf false x11 x13 = true then (tenetref02_Classes.l1 k x0 x6 x8 x9 x11 x12 (wrap64 (x13 + 1))) else ((tenetref02_reached.f k x0 x8 x6 x13).bind fun t559 => ((tenetref02_reached.f k x0 x9 x6 x13).bind fun t562 => (tenetref02_Classes.l2 k x0 x6 x8 x9 x11 x12 x13 t559 t562 ([] : List Int) x13)))) else (none)) else (none)) else (some (x12, 0))
def tenetref02_Classes.l2 : Nat → Int → List Int → List (S108) → List (S108) → List Bool → List (List Int) → Int → List Bool → List Bool → List Int → Int → Option ((List (List Int)) × Int)
 | 0, _, _, _, _, _, _, _, _, _, _, _ => none
 | k + 1, x0, x6, x8, x9, x11, x12, x13, x14, x15, x16, x17 => if x17 < x0 then (if 0 ≤ x17 then (if x17 < (x14.length : Int) then (if rdOf false x14 x17 = true then (if x17 < (x15.length : Int) then (if rdOf false x15 x17 = true then (if x17 < (x6.length : Int) then (if 0 ≤ x13 then (if x13 < (x6.length : Int) then (if (rd x6 x17) = (rd x6 x13) then (if x17 < (x11.length : Int) then (if rdOf false x11 x17 = true then (tenetref02_Classes.l2 k x0 x6 x8 x9 x11 x12 x13 x14 x15 x16 (wrap64 (x17 + 1))) else (if x16.length < 17592186044416 then (tenetref02_Classes.l2 k x0 x6 x8 x9 (x11.set (x17 : Int).toNat true) x12 x13 x14 x15 (x16 ++ [x17]) (wrap64 (x17 + 1))) else (none))) else (none)) else (tenetref02_Classes.l2 k x0 x6 x8 x9 x11 x12 x13 x14 x15 x16 (wrap64 (x17 + 1)))) else (none)) else (none)) else (none)) else (tenetref02_Classes.l2 k x0 x6 x8 x9 x11 x12 x13 x14 x15 x16 (wrap64 (x17 + 1)))) else (none)) else (tenetref02_Classes.l2 k x0 x6 x8 x9 x11 x12 x13 x14 x15 x16 (wrap64 (x17 + 1)))) else (none)) else (none)) else (if (x16.length : Int) > 1 then (if x12.length < 5864062014805 then (tenetref02_Classes.l1 k x0 x6 x8 x9 x11 (x12 ++ [x16]) (wrap64 (x13 + 1))) else (none)) else (tenetref02_Classes.l1 k x0 x6 x8 x9 x11 x12 (wrap64 (x13 + 1))))
end
def tenetref02_Classes.f (k : Nat) (a0 : Int) (l1 : List (S44)) : Option ((List (List Int)) × Int) := (tenetref02_Valid.f k a0 l1).bind fun t541 => (if t541 = true then ((tenetref02_solve.f k a0 l1).bind fun bt542 => (if bt542.2 = true then ((tenetref02_edges.f k a0 l1).bind fun t546 => (tenetref02_Classes.l0 k a0 bt542.1 t546 ([] : List (S108)) 0)) else (some (([] : List (List Int)), 20)))) else (some (([] : List (List Int)), 4)))
theorem tenetref02_Classes.mono_l : ∀ k, (∀ y0 y1 y2 y3 y4, LeO (tenetref02_Classes.l0 k y0 y1 y2 y3 y4) (tenetref02_Classes.l0 (k + 1) y0 y1 y2 y3 y4)) ∧ (∀ y0 y1 y2 y3 y4 y5 y6, LeO (tenetref02_Classes.l1 k y0 y1 y2 y3 y4 y5 y6) (tenetref02_Classes.l1 (k + 1) y0 y1 y2 y3 y4 y5 y6)) ∧ (∀ y0 y1 y2 y3 y4 y5 y6 y7 y8 y9 y10, LeO (tenetref02_Classes.l2 k y0 y1 y2 y3 y4 y5 y6 y7 y8 y9 y10) (tenetref02_Classes.l2 (k + 1) y0 y1 y2 y3 y4 y5 y6 y7 y8 y9 y10))
 | 0 => ⟨fun _ _ _ _ _ r h => by simp [tenetref02_Classes.l0] at h, fun _ _ _ _ _ _ _ r h => by simp [tenetref02_Classes.l1] at h, fun _ _ _ _ _ _ _ _ _ _ _ r h => by simp [tenetref02_Classes.l2] at h⟩
 | k + 1 => by
  obtain ⟨ih0, ih1, ih2⟩ := tenetref02_Classes.mono_l k
  refine ⟨?_, ?_, ?_⟩
  ·intro y0 y1 y2 y3 y4
   unfold tenetref02_Classes.l0
   repeat' first
   | (with_reducible exact ih0 _ _ _ _ _)
   | (with_reducible exact ih1 _ _ _ _ _ _ _)
   | (with_reducible exact ih2 _ _ _ _ _ _ _ _ _ _ _)
   | (with_reducible exact tenetref02_Valid.mono _ _ _)
   | (with_reducible exact tenetref02_edges.mono _ _ _)
   | (with_reducible exact tenetref02_reached.mono _ _ _ _ _)
   | (with_reducible exact tenetref02_solve.mono _ _ _)
   | (with_reducible exact LeO.refl _)
   | (with_reducible exact LeO.none _)
   | (with_reducible refine LeO.ite ?_ ?_)
   | (with_reducible refine LeO.bind ?_ (fun _ => ?_))
   | exact ih0 _ _ _ _ _
   | exact ih1 _ _ _ _ _ _ _
   | exact ih2 _ _ _ _ _ _ _ _ _ _ _
   | exact tenetref02_Valid.mono _ _ _
   | exact tenetref02_edges.mono _ _ _
   | exact tenetref02_reached.mono _ _ _ _ _
   | exact tenetref02_solve.mono _ _ _
   | exact LeO.none _
   | refine LeO.ite ?_ ?_
   | refine LeO.bind ?_ (fun _ => ?_)
  ·intro y0 y1 y2 y3 y4 y5 y6
   unfold tenetref02_Classes.l1
   repeat' first
   | (with_reducible exact ih0 _ _ _ _ _)
   | (with_reducible exact ih1 _ _ _ _ _ _ _)
   | (with_reducible exact ih2 _ _ _ _ _ _ _ _ _ _ _)
   | (with_reducible exact tenetref02_Valid.mono _ _ _)
   | (with_reducible exact tenetref02_edges.mono _ _ _)
   | (with_reducible exact tenetref02_reached.mono _ _ _ _ _)
   | (with_reducible exact tenetref02_solve.mono _ _ _)
   | (with_reducible exact LeO.refl _)
   | (with_reducible exact LeO.none _)
   | (with_reducible refine LeO.ite ?_ ?_)
   | (with_reducible refine LeO.bind ?_ (fun _ => ?_))
   | exact ih0 _ _ _ _ _
   | exact ih1 _ _ _ _ _ _ _
   | exact ih2 _ _ _ _ _ _ _ _ _ _ _
   | exact tenetref02_Valid.mono _ _ _
   | exact tenetref02_edges.mono _ _ _
   | exact tenetref02_reached.mono _ _ _ _ _
   | exact tenetref02_solve.mono _ _ _
   | exact LeO.none _
   | refine LeO.ite ?_ ?_
   | refine LeO.bind ?_ (fun _ => ?_)
  ·intro y0 y1 y2 y3 y4 y5 y6 y7 y8 y9 y10
   unfold tenetref02_Classes.l2
   repeat' first
   | (with_reducible exact ih0 _ _ _ _ _)
   | (with_reducible exact ih1 _ _ _ _ _ _ _)
   | (with_reducible exact ih2 _ _ _ _ _ _ _ _ _ _ _)
   | (with_reducible exact tenetref02_Valid.mono _ _ _)
   | (with_reducible exact tenetref02_edges.mono _ _ _)
   | (with_reducible exact tenetref02_reached.mono _ _ _ _ _)
   | (with_reducible exact tenetref02_solve.mono _ _ _)
   | (with_reducible exact LeO.refl _)
   | (with_reducible exact LeO.none _)
   | (with_reducible refine LeO.ite ?_ ?_)
   | (with_reducible refine LeO.bind ?_ (fun _ => ?_))
   | exact ih0 _ _ _ _ _
   | exact ih1 _ _ _ _ _ _ _
   | exact ih2 _ _ _ _ _ _ _ _ _ _ _
   | exact tenetref02_Valid.mono _ _ _
   | exact tenetref02_edges.mono _ _ _
   | exact tenetref02_reached.mono _ _ _ _ _
   | exact tenetref02_solve.mono _ _ _
   | exact LeO.none _
   | refine LeO.ite ?_ ?_
   | refine LeO.bind ?_ (fun _ => ?_)
theorem tenetref02_Classes.mono : ∀ a0 a1 k, LeO (tenetref02_Classes.f k a0 a1) (tenetref02_Classes.f (k + 1) a0 a1) := by
 intro a0 a1 k
 obtain ⟨ih0, ih1, ih2⟩ := tenetref02_Classes.mono_l k
 unfold tenetref02_Classes.f
 repeat' first
   | (with_reducible exact ih0 _ _ _ _ _)
   | (with_reducible exact ih1 _ _ _ _ _ _ _)
   | (with_reducible exact ih2 _ _ _ _ _ _ _ _ _ _ _)
   | (with_reducible exact tenetref02_Valid.mono _ _ _)
   | (with_reducible exact tenetref02_edges.mono _ _ _)
   | (with_reducible exact tenetref02_reached.mono _ _ _ _ _)
   | (with_reducible exact tenetref02_solve.mono _ _ _)
   | (with_reducible exact LeO.refl _)
   | (with_reducible exact LeO.none _)
   | (with_reducible refine LeO.ite ?_ ?_)
   | (with_reducible refine LeO.bind ?_ (fun _ => ?_))
   | exact ih0 _ _ _ _ _
   | exact ih1 _ _ _ _ _ _ _
   | exact ih2 _ _ _ _ _ _ _ _ _ _ _
   | exact tenetref02_Valid.mono _ _ _
   | exact tenetref02_edges.mono _ _ _
   | exact tenetref02_reached.mono _ _ _ _ _
   | exact tenetref02_solve.mono _ _ _
   | exact LeO.none _
   | refine LeO.ite ?_ ?_
   | refine LeO.bind ?_ (fun _ => ?_)
end Go.Proofs.Ytegejpcglabhbaa.G
