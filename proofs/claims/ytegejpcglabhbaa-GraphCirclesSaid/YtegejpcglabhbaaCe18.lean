/- A part of this claim's proof: texts of its author, and printed ones, packed by a program of its author's. -/
import Derived.Test.YtegejpcglabhbaaCe2
namespace Go.Proofs.Ytegejpcglabhbaa.G
open Go.RowKit Go.Proofs.YtegejpcglabhbaaW.PrintWords Go.Proofs.YtegejpcglabhbaaW.PrintLast Go.Proofs.YtegejpcglabhbaaW.PrintMore
attribute [local go_sem] max2_int min2_int max_two min_two max_three min_three max_four min_four
set_option linter.unusedVariables false
set_option linter.unusedSimpArgs false
mutual
def tenetref02_reached.l0 : Nat → Int → List (S108) → List Int → List Bool → Bool → Option (List Bool)
 | 0, _, _, _, _, _ => none
 | k + 1, x0, x1, x2, x9, x10 => if x10 = true then (tenetref02_reached.l1 k x0 x1 x2 x9 false 0) else (some x9)
def tenetref02_reached.l1 : Nat → Int → List (S108) → List Int → List Bool → Bool → Int → Option (List Bool)
 | 0, _, _, _, _, _, _ => none
 | k + 1, x0, x1, x2, x9, x10, x11 => if x11 < (x1.length : Int) then (if 0 ≤ x11 then (if ((rd_T108 x1 x11).f0) < x0 then (if 0 ≤ ((rd_T108 x1 x11).f0) then (if ((rd_T108 x1 x11).f0) < (x2.length : Int) then (tenetref02_reached.j2 k x0 x1 x2 x9 x10 x11 (rd x2 ((rd_T108 x1 x11).f0)) 0) else (none)) else (none)) else (tenetref02_reached.j2 k x0 x1 x2 x9 x10 x11 0 0)) else (none)) else (tenetref02_reached.l0 k x0 x1 x2 x9 x10)
def tenetref02_reached.j2 : Nat → Int → List (S108) → List Int → List Bool → Bool → Int → Int → Int → Option (List Bool)
 | 0, _, _, _, _, _, _, _, _ => none
 | k + 1, x0, x1, x2, x9, x10, x11, x12, x13 => if 0 ≤ x11 then (if x11 < (x1.length : Int) then (if ((rd_T108 x1 x11).f1) < x0 then (if 0 ≤ ((rd_T108 x1 x11).f1) then (if ((rd_T108 x1 x11).f1) < (x2.length : Int) then (if 0 ≤ ((rd_T108 x1 x11).f0) then (if ((rd_T108 x1 x11).f0) < (x9.length : Int) then (if rdOf false x9 ((rd_T108 x1 x11).f0) = true then (if ((rd_T108 x1 x11).f1) < (x9.length : Int) then (if (rdOf false x9 ((rd_T108 x1 x11).f1) = true) then (tenetref02_reached.l1 k x0 x1 x2 x9 x10 (wrap64 (x11 + 1))) else (if (wrap64 (x12 + ((rd_T108 x1 x11).f2))) = (rd x2 ((rd_T108 x1 x11).f1)) then (tenetref02_reached.l1 k x0 x1 x2 (x9.set (((rd_T108 x1 x11).f1) : Int).toNat true) true (wrap64 (x11 + 1))) else (tenetref02_reached.l1 k x0 x1 x2 x9 x10 (wrap64 (x11 + 1))))) else (none)) else (tenetref02_reached.l1 k x0 x1 x2 x9 x10 (wrap64 (x11 + 1)))) else (none)) else (none)) else (none)) else (none)) else (if 0 ≤ ((rd_T108 x1 x11).f0) then (if ((rd_T108 x1 x11).f0) < (x9.length : Int) then (if rdOf false x9 ((rd_T108 x1 x11).f0) = true then (if 0 ≤ ((rd_T108 x1 x11).f1) then (if ((rd_T108 x1 x11).f1) < (x9.length : Int) then (if (rdOf false x9 ((rd_T108 x1 x11).f1) = true) then (tenetref02_reached.l1 k x0 x1 x2 x9 x10 (wrap64 (x11 + 1))) else (if (wrap64 (x12 + ((rd_T108 x1 x11).f2))) = x13 then (tenetref02_reached.l1 k x0 x1 x2 (x9.set (((rd_T108 x1 x11).f1) : Int).toNat true) true (wrap64 (x11 + 1))) else (tenetref02_reached.l1 k x0 x1 x2 x9 x10 (wrap64 (x11 + 1))))) else (none)) else (none)) else (tenetref02_reached.l1 k x0 x1 x2 x9 x10 (wrap64 (x11 + 1)))) else (none)) else (none))) else (none)) else (none)
end
def tenetref02_reached.f (k : Nat) (a0 : Int) (l1 : List (S108)) (l2 : List Int) (a3 : Int) : Option (List Bool) := if 0 ≤ (wrap64 (a0 + 1)) then (if (wrap64 (a0 + 1) : Int).toNat ≤ 281474976710656 then ((some (List.replicate (wrap64 (a0 + 1) : Int).toNat false : List Bool)).bind fun y517 => (if 0 ≤ a3 then (if a3 < (y517.length : Int) then (tenetref02_reached.l0 k a0 l1 l2 (y517.set (a3 : Int).toNat true) true) else (none)) else (none))) else (none)) else (none)
theorem tenetref02_reached.mono_l : ∀ k, (∀ y0 y1 y2 y3 y4, LeO (tenetref02_reached.l0 k y0 y1 y2 y3 y4) (tenetref02_reached.l0 (k + 1) y0 y1 y2 y3 y4)) ∧ (∀ y0 y1 y2 y3 y4 y5, LeO (tenetref02_reached.l1 k y0 y1 y2 y3 y4 y5) (tenetref02_reached.l1 (k + 1) y0 y1 y2 y3 y4 y5)) ∧ (∀ y0 y1 y2 y3 y4 y5 y6 y7, LeO (tenetref02_reached.j2 k y0 y1 y2 y3 y4 y5 y6 y7) (tenetref02_reached.j2 (k + 1) y0 y1 y2 y3 y4 y5 y6 y7))
 | 0 => ⟨fun _ _ _ _ _ r h => by simp [tenetref02_reached.l0] at h, fun _ _ _ _ _ _ r h => by simp [tenetref02_reached.l1] at h, fun _ _ _ _ _ _ _ _ r h => by simp [tenetref02_reached.j2] at h⟩
 | k + 1 => by
  obtain ⟨ih0, ih1, ih2⟩ := tenetref02_reached.mono_l k
  refine ⟨?_, ?_, ?_⟩
  ·intro y0 y1 y2 y3 y4
   unfold tenetref02_reached.l0
   repeat' first
   | (with_reducible exact ih0 _ _ _ _ _)
   | (with_reducible exact ih1 _ _ _ _ _ _)
   | (with_reducible exact ih2 _ _ _ _ _ _ _ _)
   | (with_reducible exact LeO.refl _)
   | (with_reducible exact LeO.none _)
   | (with_reducible refine LeO.ite ?_ ?_)
   | (with_reducible refine LeO.bind ?_ (fun _ => ?_))
   | exact ih0 _ _ _ _ _
   | exact ih1 _ _ _ _ _ _
   | exact ih2 _ _ _ _ _ _ _ _
   | exact LeO.none _
   | refine LeO.ite ?_ ?_
   | refine LeO.bind ?_ (fun _ => ?_)
  ·intro y0 y1 y2 y3 y4 y5
   unfold tenetref02_reached.l1
   repeat' first
   | (with_reducible exact ih0 _ _ _ _ _)
   | (with_reducible exact ih1 _ _ _ _ _ _)
   | (with_reducible exact ih2 _ _ _ _ _ _ _ _)
   | (with_reducible exact LeO.refl _)
   | (with_reducible exact LeO.none _)
   | (with_reducible refine LeO.ite ?_ ?_)
   | (with_reducible refine LeO.bind ?_ (fun _ => ?_))
   | exact ih0 _ _ _ _ _
   | exact ih1 _ _ _ _ _ _
   | exact ih2 _ _ _ _ _ _ _ _
   | exact LeO.none _
   | refine LeO.ite ?_ ?_
   | refine LeO.bind ?_ (fun _ => ?_)
  ·intro y0 y1 y2 y3 y4 y5 y6 y7
   unfold tenetref02_reached.j2
   repeat' first
   | (with_reducible exact ih0 _ _ _ _ _)
   | (with_reducible exact ih1 _ _ _ _ _ _)
   | (with_reducible exact ih2 _ _ _ _ _ _ _ _)
   | (with_reducible exact LeO.refl _)
   | (with_reducible exact LeO.none _)
   | (with_reducible refine LeO.ite ?_ ?_)
   | (with_reducible refine LeO.bind ?_ (fun _ => ?_))
   | exact ih0 _ _ _ _ _
   | exact ih1 _ _ _ _ _ _
   | exact ih2 _ _ _ _ _ _ _ _
   | exact LeO.none _
   | refine LeO.ite ?_ ?_
   | refine LeO.bind ?_ (fun _ => ?_)
theorem tenetref02_reached.mono : ∀ a0 a1 a2 a3 k, LeO (tenetref02_reached.f k a0 a1 a2 a3) (tenetref02_reached.f (k + 1) a0 a1 a2 a3) := by
 intro a0 a1 a2 a3 k
 obtain ⟨ih0, ih1, ih2⟩ := tenetref02_reached.mono_l k
 unfold tenetref02_reached.f
 repeat' first
   | (with_reducible exact ih0 _ _ _ _ _)
   | (with_reducible exact ih1 _ _ _ _ _ _)
   | (with_reducible exact ih2 _ _ _ _ _ _ _ _)
   | (with_reducible exact LeO.refl _)
   | (with_reducible exact LeO.none _)
   | (with_reducible refine LeO.ite ?_ ?_)
   | (with_reducible refine LeO.bind ?_ (fun _ => ?_))
   | exact ih0 _ _ _ _ _
   | exact ih1 _ _ _ _ _ _
   | exact ih2 _ _ _ _ _ _ _ _
   | exact LeO.none _
   | refine LeO.ite ?_ ?_
   | refine LeO.bind ?_ (fun _ => ?_)
end Go.Proofs.Ytegejpcglabhbaa.G
