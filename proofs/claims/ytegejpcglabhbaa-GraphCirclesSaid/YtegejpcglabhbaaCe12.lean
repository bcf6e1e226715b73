/- A part of this claim's proof: texts of its author, and printed ones, packed by a program of its author's. -/
import Derived.Test.YtegejpcglabhbaaCe2
namespace Go.Proofs.Ytegejpcglabhbaa.G
open Go.RowKit Go.Proofs.YtegejpcglabhbaaW.PrintWords Go.Proofs.YtegejpcglabhbaaW.PrintLast Go.Proofs.YtegejpcglabhbaaW.PrintMore
attribute [local go_sem] max2_int min2_int max_two min_two max_three min_three max_four min_four
set_option linter.unusedVariables false
set_option linter.unusedSimpArgs false
mutual
def tenetref01_Valid.j0 : Nat → Bool → Int → List (S96) → Option (Bool)
 | 0, _, _, _ => none
 | k + 1, x19, x199000, x199001 => if x19 = true then (some false) else (tenetref01_Valid.l0 k 0 x199000 x199001)
def tenetref01_Valid.l0 : Nat → Int → Int → List (S96) → Option (Bool)
 | 0, _, _, _ => none
 | k + 1, x3, x199000, x199001 => if x3 < (x199001.length : Int) then (if 0 ≤ x3 then (if ((rd_T96 x199001 x3).f0) < 0 then (tenetref01_Valid.j2 k x3 true x199000 x199001 ((rd_T96 x199001 x3).f0) ((rd_T96 x199001 x3).f1)) else (if ((rd_T96 x199001 x3).f0) ≥ 1200 then (tenetref01_Valid.j2 k x3 true x199000 x199001 ((rd_T96 x199001 x3).f0) ((rd_T96 x199001 x3).f1)) else (if ((rd_T96 x199001 x3).f1) < 0 then (tenetref01_Valid.j2 k x3 true x199000 x199001 ((rd_T96 x199001 x3).f0) ((rd_T96 x199001 x3).f1)) else (tenetref01_Valid.j2 k x3 (decide (((rd_T96 x199001 x3).f1) > 1000)) x199000 x199001 ((rd_T96 x199001 x3).f0) ((rd_T96 x199001 x3).f1))))) else (none)) else (some true)
def tenetref01_Valid.j2 : Nat → Int → Bool → Int → List (S96) → Int → Int → Option (Bool)
 | 0, _, _, _, _, _, _ => none
 | k + 1, x3, x49, x199000, x199001, x201000, x201001 => if x49 = true then (some false) else (tenetref01_Valid.l1 k x3 0 x199000 x199001 x201000 x201001)
def tenetref01_Valid.l1 : Nat → Int → Int → Int → List (S96) → Int → Int → Option (Bool)
 | 0, _, _, _, _, _, _ => none
 | k + 1, x3, x5, x199000, x199001, x201000, x201001 => if x5 < x3 then (if 0 ≤ x5 then (if x5 < (x199001.length : Int) then (if ((rd_T96 x199001 x5).f0) = x201000 then (some false) else (tenetref01_Valid.l1 k x3 (wrap64 (x5 + 1)) x199000 x199001 x201000 x201001)) else (none)) else (none)) else (tenetref01_Valid.l0 k (wrap64 (x3 + 1)) x199000 x199001)
end
def tenetref01_Valid.f (k : Nat) (a0_0 : Int) (l0_1 : List (S96)) : Option (Bool) := if a0_0 < 0 then (tenetref01_Valid.j0 k true a0_0 l0_1) else (if a0_0 > 1000 then (tenetref01_Valid.j0 k true a0_0 l0_1) else (tenetref01_Valid.j0 k (decide ((l0_1.length : Int) > 8)) a0_0 l0_1))
theorem tenetref01_Valid.mono_l : ∀ k, (∀ y0 y1 y2, LeO (tenetref01_Valid.j0 k y0 y1 y2) (tenetref01_Valid.j0 (k + 1) y0 y1 y2)) ∧ (∀ y0 y1 y2, LeO (tenetref01_Valid.l0 k y0 y1 y2) (tenetref01_Valid.l0 (k + 1) y0 y1 y2)) ∧ (∀ y0 y1 y2 y3 y4 y5, LeO (tenetref01_Valid.j2 k y0 y1 y2 y3 y4 y5) (tenetref01_Valid.j2 (k + 1) y0 y1 y2 y3 y4 y5)) ∧ (∀ y0 y1 y2 y3 y4 y5, LeO (tenetref01_Valid.l1 k y0 y1 y2 y3 y4 y5) (tenetref01_Valid.l1 (k + 1) y0 y1 y2 y3 y4 y5))
 | 0 => ⟨fun _ _ _ r h => by simp [tenetref01_Valid.j0] at h, fun _ _ _ r h => by simp [tenetref01_Valid.l0] at h, fun _ _ _ _ _ _ r h => by simp [tenetref01_Valid.j2] at h, fun _ _ _ _ _ _ r h => by simp [tenetref01_Valid.l1] at h⟩
 | k + 1 => by
  obtain ⟨ih0, ih1, ih2, ih3⟩ := tenetref01_Valid.mono_l k
  refine ⟨?_, ?_, ?_, ?_⟩
  ·intro y0 y1 y2
   unfold tenetref01_Valid.j0
   repeat' first
   | (with_reducible exact ih0 _ _ _)
   | (with_reducible exact ih1 _ _ _)
   | (with_reducible exact ih2 _ _ _ _ _ _)
   | (with_reducible exact ih3 _ _ _ _ _ _)
   | (with_reducible exact LeO.refl _)
   | (with_reducible exact LeO.none _)
   | (with_reducible refine LeO.ite ?_ ?_)
   | (with_reducible refine LeO.bind ?_ (fun _ => ?_))
   | exact ih0 _ _ _
   | exact ih1 _ _ _
   | exact ih2 _ _ _ _ _ _
   | exact ih3 _ _ _ _ _ _
   | exact LeO.none _
   | refine LeO.ite ?_ ?_
   | refine LeO.bind ?_ (fun _ => ?_)
  ·intro y0 y1 y2
   unfold tenetref01_Valid.l0
   repeat' first
   | (with_reducible exact ih0 _ _ _)
   | (with_reducible exact ih1 _ _ _)
   | (with_reducible exact ih2 _ _ _ _ _ _)
   | (with_reducible exact ih3 _ _ _ _ _ _)
   | (with_reducible exact LeO.refl _)
   | (with_reducible exact LeO.none _)
   | (with_reducible refine LeO.ite ?_ ?_)
   | (with_reducible refine LeO.bind ?_ (fun _ => ?_))
   | exact ih0 _ _ _
   | exact ih1 _ _ _
   | exact ih2 _ _ _ _ _ _
   | exact ih3 _ _ _ _ _ _
   | exact LeO.none _
   | refine LeO.ite ?_ ?_
   | refine LeO.bind ?_ (fun _ => ?_)
  ·intro y0 y1 y2 y3 y4 y5
   unfold tenetref01_Valid.j2
   repeat' first
   | (with_reducible exact ih0 _ _ _)
   | (with_reducible exact ih1 _ _ _)
   | (with_reducible exact ih2 _ _ _ _ _ _)
   | (with_reducible exact ih3 _ _ _ _ _ _)
   | (with_reducible exact LeO.refl _)
   | (with_reducible exact LeO.none _)
   | (with_reducible refine LeO.ite ?_ ?_)
   | (with_reducible refine LeO.bind ?_ (fun _ => ?_))
   | exact ih0 _ _ _
   | exact ih1 _ _ _
   | exact ih2 _ _ _ _ _ _
   | exact ih3 _ _ _ _ _ _
   | exact LeO.none _
   | refine LeO.ite ?_ ?_
   | refine LeO.bind ?_ (fun _ => ?_)
  ·intro y0 y1 y2 y3 y4 y5
   unfold tenetref01_Valid.l1
   repeat' first
   | (with_reducible exact ih0 _ _ _)
   | (with_reducible exact ih1 _ _ _)
   | (with_reducible exact ih2 _ _ _ _ _ _)
   | (with_reducible exact ih3 _ _ _ _ _ _)
   | (with_reducible exact LeO.refl _)
   | (with_reducible exact LeO.none _)
   | (with_reducible refine LeO.ite ?_ ?_)
   | (with_reducible refine LeO.bind ?_ (fun _ => ?_))
   | exact ih0 _ _ _
   | exact ih1 _ _ _
   | exact ih2 _ _ _ _ _ _
   | exact ih3 _ _ _ _ _ _
   | exact LeO.none _
   | refine LeO.ite ?_ ?_
   | refine LeO.bind ?_ (fun _ => ?_)
theorem tenetref01_Valid.mono : ∀ a0 a1 k, LeO (tenetref01_Valid.f k a0 a1) (tenetref01_Valid.f (k + 1) a0 a1) := by
 intro a0 a1 k
 obtain ⟨ih0, ih1, ih2, ih3⟩ := tenetref01_Valid.mono_l k
 unfold tenetref01_Valid.f
 repeat' first
   | (with_reducible exact ih0 _ _ _)
   | (with_reducible exact ih1 _ _ _)
   | (with_reducible exact ih2 _ _ _ _ _ _)
   | (with_reducible exact ih3 _ _ _ _ _ _)
   | (with_reducible exact LeO.refl _)
   | (with_reducible exact LeO.none _)
   | (with_reducible refine LeO.ite ?_ ?_)
   | (with_reducible refine LeO.bind ?_ (fun _ => ?_))
   | exact ih0 _ _ _
   | exact ih1 _ _ _
   | exact ih2 _ _ _ _ _ _
   | exact ih3 _ _ _ _ _ _
   | exact LeO.none _
   | refine LeO.ite ?_ ?_
   | refine LeO.bind ?_ (fun _ => ?_)
def tenetref02_below.l0 : Nat → Int → Int → Int → List (S96) → Option (Bool)
 | 0, _, _, _, _ => none
 | k + 1, x1, x5, x203000, x203001 => if x5 < (x203001.length : Int) then (if 0 ≤ x5 then (if ((rd_T96 x203001 x5).f0) ≥ x1 then (some false) else (tenetref02_below.l0 k x1 (wrap64 (x5 + 1)) x203000 x203001)) else (none)) else (some true)
def tenetref02_below.f (k : Nat) (a0_0 : Int) (l0_1 : List (S96)) (a1 : Int) : Option (Bool) := tenetref02_below.l0 k a1 0 a0_0 l0_1
theorem tenetref02_below.mono_l : ∀ k, (∀ y0 y1 y2 y3, LeO (tenetref02_below.l0 k y0 y1 y2 y3) (tenetref02_below.l0 (k + 1) y0 y1 y2 y3))
 | 0 => fun _ _ _ _ r h => by simp [tenetref02_below.l0] at h
 | k + 1 => by
  have ih0 := tenetref02_below.mono_l k
  ·intro y0 y1 y2 y3
   unfold tenetref02_below.l0
   repeat' first
   | (with_reducible exact ih0 _ _ _ _)
   | (with_reducible exact LeO.refl _)
   | (with_reducible exact LeO.none _)
   | (with_reducible refine LeO.ite ?_ ?_)
   | (with_reducible refine LeO.bind ?_ (fun _ => ?_))
   | exact ih0 _ _ _ _
   | exact LeO.none _
   | refine LeO.ite ?_ ?_
   | refine LeO.bind ?_ (fun _ => ?_)
theorem tenetref02_below.mono : ∀ a0 a1 a2 k, LeO (tenetref02_below.f k a0 a1 a2) (tenetref02_below.f (k + 1) a0 a1 a2) := by
 intro a0 a1 a2 k
 have ih0 := tenetref02_below.mono_l k
 unfold tenetref02_below.f
 repeat' first
   | (with_reducible exact ih0 _ _ _ _)
   | (with_reducible exact LeO.refl _)
   | (with_reducible exact LeO.none _)
   | (with_reducible refine LeO.ite ?_ ?_)
   | (with_reducible refine LeO.bind ?_ (fun _ => ?_))
   | exact ih0 _ _ _ _
   | exact LeO.none _
   | refine LeO.ite ?_ ?_
   | refine LeO.bind ?_ (fun _ => ?_)
def tenetref02_Constraint.f (k : Nat) (a0 : Int) (a1_0 : Int) (l1_1 : List (S96)) (a1_2 : Int) (l1_3 : List (S96)) : Option (Bool) := (tenetref01_Valid.f k a1_0 l1_1).bind fun t205 => (if t205 = true then ((tenetref01_Valid.f k a1_2 l1_3).bind fun t206 => (if t206 = true then ((tenetref02_below.f k a1_0 l1_1 a0).bind fun t207 => (if t207 = true then ((tenetref02_below.f k a1_2 l1_3 a0).bind fun t208 => (if t208 = true then (if (l1_3.length : Int) = 0 then (some true) else (if (l1_3.length : Int) = 1 then (some (a1_2 == 0)) else (some false))) else (some false))) else (some false))) else (some false))) else (some false))
theorem tenetref02_Constraint.mono : ∀ a0 a1 a2 a3 a4 k, LeO (tenetref02_Constraint.f k a0 a1 a2 a3 a4) (tenetref02_Constraint.f (k + 1) a0 a1 a2 a3 a4) := by
 intro a0 a1 a2 a3 a4 k
 unfold tenetref02_Constraint.f
 repeat' first
   | (with_reducible exact tenetref01_Valid.mono _ _ _)
   | (with_reducible exact tenetref02_below.mono _ _ _ _)
   | (with_reducible exact LeO.refl _)
   | (with_reducible exact LeO.none _)
   | (with_reducible refine LeO.ite ?_ ?_)
   | (with_reducible refine LeO.bind ?_ (fun _ => ?_))
   | exact tenetref01_Valid.mono _ _ _
   | exact tenetref02_below.mono _ _ _ _
   | exact LeO.none _
   | refine LeO.ite ?_ ?_
   | refine LeO.bind ?_ (fun _ => ?_)
mutual
def tenetref02_Valid.j0 : Nat → Int → List (S44) → Bool → Option (Bool)
 | 0, _, _, _ => none
 | k + 1, x0, x1, x16 => if x16 = true then (some false) else (tenetref02_Valid.l0 k x0 x1 0)
def tenetref02_Valid.l0 : Nat → Int → List (S44) → Int → Option (Bool)
 | 0, _, _, _ => none
 | k + 1, x0, x1, x5 => if x5 < (x1.length : Int) then (if 0 ≤ x5 then ((tenetref02_Constraint.f k x0 ((rd_T44 x1 x5).f0.f0) ((rd_T44 x1 x5).f0.f1) ((rd_T44 x1 x5).f1.f0) ((rd_T44 x1 x5).f1.f1)).bind fun t210 => (if t210 = true then (tenetref02_Valid.l0 k x0 x1 (wrap64 (x5 + 1))) else (some false))) else (none)) else (some true)
end
def tenetref02_Valid.f (k : Nat) (a0 : Int) (l1 : List (S44)) : Option (Bool) := if a0 < 0 then (tenetref02_Valid.j0 k a0 l1 true) else (if a0 > 1200 then (tenetref02_Valid.j0 k a0 l1 true) else (tenetref02_Valid.j0 k a0 l1 (decide ((l1.length : Int) > 3000))))
theorem tenetref02_Valid.mono_l : ∀ k, (∀ y0 y1 y2, LeO (tenetref02_Valid.j0 k y0 y1 y2) (tenetref02_Valid.j0 (k + 1) y0 y1 y2)) ∧ (∀ y0 y1 y2, LeO (tenetref02_Valid.l0 k y0 y1 y2) (tenetref02_Valid.l0 (k + 1) y0 y1 y2))
 | 0 => ⟨fun _ _ _ r h => by simp [tenetref02_Valid.j0] at h, fun _ _ _ r h => by simp [tenetref02_Valid.l0] at h⟩
 | k + 1 => by
  obtain ⟨ih0, ih1⟩ := tenetref02_Valid.mono_l k
  refine ⟨?_, ?_⟩
  ·intro y0 y1 y2
   unfold tenetref02_Valid.j0
   repeat' first
   | (with_reducible exact ih0 _ _ _)
   | (with_reducible exact ih1 _ _ _)
   | (with_reducible exact tenetref02_Constraint.mono _ _ _ _ _ _)
   | (with_reducible exact LeO.refl _)
   | (with_reducible exact LeO.none _)
   | (with_reducible refine LeO.ite ?_ ?_)
   | (with_reducible refine LeO.bind ?_ (fun _ => ?_))
   | exact ih0 _ _ _
   | exact ih1 _ _ _
   | exact tenetref02_Constraint.mono _ _ _ _ _ _
   | exact LeO.none _
   | refine LeO.ite ?_ ?_
   | refine LeO.bind ?_ (fun _ => ?_)
  ·intro y0 y1 y2
   unfold tenetref02_Valid.l0
   repeat' first
   | (with_reducible exact ih0 _ _ _)
   | (with_reducible exact ih1 _ _ _)
   | (with_reducible exact tenetref02_Constraint.mono _ _ _ _ _ _)
   | (with_reducible exact LeO.refl _)
   | (with_reducible exact LeO.none _)
   | (with_reducible refine LeO.ite ?_ ?_)
   | (with_reducible refine LeO.bind ?_ (fun _ => ?_))
   | exact ih0 _ _ _
   | exact ih1 _ _ _
   | exact tenetref02_Constraint.mono _ _ _ _ _ _
   | exact LeO.none _
   | refine LeO.ite ?_ ?_
   | refine LeO.bind ?_ (fun _ => ?_)
theorem tenetref02_Valid.mono : ∀ a0 a1 k, LeO (tenetref02_Valid.f k a0 a1) (tenetref02_Valid.f (k + 1) a0 a1) := by
 intro a0 a1 k
 obtain ⟨ih0, ih1⟩ := tenetref02_Valid.mono_l k
 unfold tenetref02_Valid.f
 repeat' first
   | (with_reducible exact ih0 _ _ _)
   | (with_reducible exact ih1 _ _ _)
   | (with_reducible exact tenetref02_Constraint.mono _ _ _ _ _ _)
   | (with_reducible exact LeO.refl _)
   | (with_reducible exact LeO.none _)
   | (with_reducible refine LeO.ite ?_ ?_)
   | (with_reducible refine LeO.bind ?_ (fun _ => ?_))
   | exact ih0 _ _ _
   | exact ih1 _ _ _
   | exact tenetref02_Constraint.mono _ _ _ _ _ _
   | exact LeO.none _
   | refine LeO.ite ?_ ?_
   | refine LeO.bind ?_ (fun _ => ?_)
mutual
def tenetlaw02_heavy.j0 : Nat → List (S44) → Bool → Option (Bool)
 | 0, _, _ => none
 | k + 1, x1, x16 => if x16 = true then (some true) else (tenetlaw02_heavy.l0 k x1 0)
def tenetlaw02_heavy.l0 : Nat → List (S44) → Int → Option (Bool)
 | 0, _, _ => none
 | k + 1, x1, x7 => if x7 < (x1.length : Int) then (if 0 ≤ x7 then (if (((rd_T44 x1 x7).f0.f1).length : Int) > 20 then (some true) else (if (((rd_T44 x1 x7).f1.f1).length : Int) > 20 then (some true) else (tenetlaw02_heavy.l0 k x1 (wrap64 (x7 + 1))))) else (none)) else (some false)
end
def tenetlaw02_heavy.f (k : Nat) (a0 : Int) (l1 : List (S44)) (a2 : Int) : Option (Bool) := if a0 > a2 then (tenetlaw02_heavy.j0 k l1 true) else (tenetlaw02_heavy.j0 k l1 (decide ((l1.length : Int) > a2)))
theorem tenetlaw02_heavy.mono_l : ∀ k, (∀ y0 y1, LeO (tenetlaw02_heavy.j0 k y0 y1) (tenetlaw02_heavy.j0 (k + 1) y0 y1)) ∧ (∀ y0 y1, LeO (tenetlaw02_heavy.l0 k y0 y1) (tenetlaw02_heavy.l0 (k + 1) y0 y1))
 | 0 => ⟨fun _ _ r h => by simp [tenetlaw02_heavy.j0] at h, fun _ _ r h => by simp [tenetlaw02_heavy.l0] at h⟩
 | k + 1 => by
  obtain ⟨ih0, ih1⟩ := tenetlaw02_heavy.mono_l k
  refine ⟨?_, ?_⟩
  ·intro y0 y1
   unfold tenetlaw02_heavy.j0
   repeat' first
   | (with_reducible exact ih0 _ _)
   | (with_reducible exact ih1 _ _)
   | (with_reducible exact LeO.refl _)
   | (with_reducible exact LeO.none _)
   | (with_reducible refine LeO.ite ?_ ?_)
   | (with_reducible refine LeO.bind ?_ (fun _ => ?_))
   | exact ih0 _ _
   | exact ih1 _ _
   | exact LeO.none _
   | refine LeO.ite ?_ ?_
   | refine LeO.bind ?_ (fun _ => ?_)
  ·intro y0 y1
   unfold tenetlaw02_heavy.l0
   repeat' first
   | (with_reducible exact ih0 _ _)
   | (with_reducible exact ih1 _ _)
   | (with_reducible exact LeO.refl _)
   | (with_reducible exact LeO.none _)
   | (with_reducible refine LeO.ite ?_ ?_)
   | (with_reducible refine LeO.bind ?_ (fun _ => ?_))
   | exact ih0 _ _
   | exact ih1 _ _
   | exact LeO.none _
   | refine LeO.ite ?_ ?_
   | refine LeO.bind ?_ (fun _ => ?_)
theorem tenetlaw02_heavy.mono : ∀ a0 a1 a2 k, LeO (tenetlaw02_heavy.f k a0 a1 a2) (tenetlaw02_heavy.f (k + 1) a0 a1 a2) := by
 intro a0 a1 a2 k
 obtain ⟨ih0, ih1⟩ := tenetlaw02_heavy.mono_l k
 unfold tenetlaw02_heavy.f
 repeat' first
   | (with_reducible exact ih0 _ _)
   | (with_reducible exact ih1 _ _)
   | (with_reducible exact LeO.refl _)
   | (with_reducible exact LeO.none _)
   | (with_reducible refine LeO.ite ?_ ?_)
   | (with_reducible refine LeO.bind ?_ (fun _ => ?_))
   | exact ih0 _ _
   | exact ih1 _ _
   | exact LeO.none _
   | refine LeO.ite ?_ ?_
   | refine LeO.bind ?_ (fun _ => ?_)
def tenetref00_EqInts.l0 : Nat → List Int → List Int → Int → Option (Bool)
 | 0, _, _, _ => none
 | k + 1, x0, x1, x5 => if x5 < (x0.length : Int) then (if 0 ≤ x5 then (if x5 < (x1.length : Int) then (if (rd x0 x5) = (rd x1 x5) then (tenetref00_EqInts.l0 k x0 x1 (wrap64 (x5 + 1))) else (some false)) else (none)) else (none)) else (some true)
def tenetref00_EqInts.f (k : Nat) (l0 : List Int) (l1 : List Int) : Option (Bool) := if (l0.length : Int) = (l1.length : Int) then (tenetref00_EqInts.l0 k l0 l1 0) else (some false)
theorem tenetref00_EqInts.mono_l : ∀ k, (∀ y0 y1 y2, LeO (tenetref00_EqInts.l0 k y0 y1 y2) (tenetref00_EqInts.l0 (k + 1) y0 y1 y2))
 | 0 => fun _ _ _ r h => by simp [tenetref00_EqInts.l0] at h
 | k + 1 => by
  have ih0 := tenetref00_EqInts.mono_l k
  ·intro y0 y1 y2
   unfold tenetref00_EqInts.l0
   repeat' first
   | (with_reducible exact ih0 _ _ _)
   | (with_reducible exact LeO.refl _)
   | (with_reducible exact LeO.none _)
   | (with_reducible refine LeO.ite ?_ ?_)
   | (with_reducible refine LeO.bind ?_ (fun _ => ?_))
   | exact ih0 _ _ _
   | exact LeO.none _
   | refine LeO.ite ?_ ?_
   | refine LeO.bind ?_ (fun _ => ?_)
theorem tenetref00_EqInts.mono : ∀ a0 a1 k, LeO (tenetref00_EqInts.f k a0 a1) (tenetref00_EqInts.f (k + 1) a0 a1) := by
 intro a0 a1 k
 have ih0 := tenetref00_EqInts.mono_l k
 unfold tenetref00_EqInts.f
 repeat' first
   | (with_reducible exact ih0 _ _ _)
   | (with_reducible exact LeO.refl _)
   | (with_reducible exact LeO.none _)
   | (with_reducible refine LeO.ite ?_ ?_)
   | (with_reducible refine LeO.bind ?_ (fun _ => ?_))
   | exact ih0 _ _ _
   | exact LeO.none _
   | refine LeO.ite ?_ ?_
   | refine LeO.bind ?_ (fun _ => ?_)
set_option maxHeartbeats 8000000 in
set_option maxRecDepth 100000 in
theorem tenetref00_EqInts.calls (k : Nat) (A0 : Option Addr) (c0 : Nat) (l0 : List Int) (A1 : Option Addr) (c1 : Nat) (l1 : List Int) (r : Bool) (w : World) (hr0 : Kd.C (Kd.int .i64) w A0 l0.length l0) (hc0 : l0.length ≤ c0) (hr1 : Kd.C (Kd.int .i64) w A1 l1.length l1) (hc1 : l1.length ≤ c1) (h : tenetref00_EqInts.f k l0 l1 = some r) :
  Calls Try.prog 26 #[.slice A0 l0.length c0, .slice A1 l1.length c1] w fun e w' => e = .returned (.bool r) ∧ Drawn0 w w' := by
 have HR0 := Aside0.mk hr0
 have HC0 := Aside0.mk hc0
 clear hr0 hc0
 have HR1 := Aside0.mk hr1
 have HC1 := Aside0.mk hc1
 clear hr1 hc1
 have H : (if (l0.length : Int) = (l1.length : Int) then (tenetref00_EqInts.l0 k l0 l1 0) else (some false)) = some r := h
 clear h
 by_cases c3 : (l0.length : Int) = (l1.length : Int)
 ·rw [if_pos c3] at H
  have c3b0 : ((l0.length : Int) == (l1.length : Int)) = true := beq_iff_eq.mpr c3
  have c3b1 : ((l0.length : Int) != (l1.length : Int)) = false := bne_eq_false_iff_eq.mpr c3
  have c3b2 : (l0.length == l1.length) = true := by first | simpa using c3 | (simp at c3 ⊢; omega)
  clear c3
  have H' := Aside0.mk H
  clear H
  go_enter Try.func26, Try.ntmps26
  go_wp2
  repeat (go_quiet (fail); try go_wp2)
  go_loopg [5] k (fun kq v5 w' => ∃ (x5_1 : Int), v5 = .int .i64 x5_1 ∧ Aside0 (tenetref00_EqInts.l0 kq l0 l1 x5_1 = some r) ∧ Aside0 (kq ≤ k) ∧ Drawn0 w w')
  case atStart => exact ⟨(0), (by first | rfl | (simp; done) | (simp [*]; done)), H', ⟨Nat.le_refl _⟩, by repeat (first | exact Drawn0.refl _ | apply Drawn0.step)⟩
  case round =>
   clear H'
   try clear c1
   try clear c2
   try clear p2
   try clear c3
   try clear c3b0
   try clear c3b1
   try clear c3b2
   obtain ⟨x5_1, rfl, HA, HK1, ⟨m1, rfl⟩⟩ := hrel
   cases gk with
   | zero => exact absurd HA.out (by simp [tenetref00_EqInts.l0])
   | succ k1 =>
    have H := HA.out
    clear HA
    simp only [tenetref00_EqInts.l0] at H
    by_cases c4 : x5_1 < (l0.length : Int)
    ·rw [if_pos c4] at H
     have c4b0 : decide (x5_1 < (l0.length : Int)) = true := decide_eq_true c4
     clear c4
     by_cases c5 : 0 ≤ x5_1
     ·rw [if_pos c5] at H
      have c5b0 : decide (0 ≤ x5_1) = true := decide_eq_true c5
      clear c5
      by_cases c6 : x5_1 < (l1.length : Int)
      ·rw [if_pos c6] at H
       have c6b0 : decide (x5_1 < (l1.length : Int)) = true := decide_eq_true c6
       clear c6
       by_cases c7 : (rd l0 x5_1) = (rd l1 x5_1)
       ·rw [if_pos c7] at H
        have c7b0 : ((rd l0 x5_1) == (rd l1 x5_1)) = true := beq_iff_eq.mpr c7
        have c7b1 : ((rd l0 x5_1) != (rd l1 x5_1)) = false := bne_eq_false_iff_eq.mpr c7
        clear c7
        have H' := Aside0.mk H
        clear H
        have p165 : 0 ≤ (x5_1 : Int) := of_decide_eq_true (by first | (with_reducible assumption) | assumption)
        have q165 : x5_1 < (l0.length : Int) := of_decide_eq_true (by first | (with_reducible assumption) | assumption)
        obtain ⟨ad165, e165, hx165_0⟩ := Kd.at_int HR0.out x5_1 p165 q165
        cases e165
        replace p165 := eq_true p165
        replace q165 := eq_true q165
        have p166 : 0 ≤ (x5_1 : Int) := of_decide_eq_true (by first | (with_reducible assumption) | assumption)
        have q166 : x5_1 < (l1.length : Int) := of_decide_eq_true (by first | (with_reducible assumption) | assumption)
        obtain ⟨ad166, e166, hx166_0⟩ := Kd.at_int HR1.out x5_1 p166 q166
        cases e166
        replace p166 := eq_true p166
        replace q166 := eq_true q166
        go_wp2
        repeat (go_quiet (fail); try go_wp2)
        go_roundg k1
        case measure => have := HK1.out; omega
        case rel => exact ⟨(wrap64 (x5_1 + 1)), (by first | rfl | (simp; done) | (simp [*]; done)), H', ⟨by have := HK1.out; omega⟩, by repeat (first | exact Drawn0.refl _ | apply Drawn0.step)⟩
       ·rw [if_neg c7] at H
        have c7b0 : ((rd l0 x5_1) == (rd l1 x5_1)) = false := beq_eq_false_iff_ne.mpr c7
        have c7b1 : ((rd l0 x5_1) != (rd l1 x5_1)) = true := bne_iff_ne.mpr c7
        obtain rfl := Option.some.inj H
        have p165 : 0 ≤ (x5_1 : Int) := of_decide_eq_true (by first | (with_reducible assumption) | assumption)
        have q165 : x5_1 < (l0.length : Int) := of_decide_eq_true (by first | (with_reducible assumption) | assumption)
        obtain ⟨ad165, e165, hx165_0⟩ := Kd.at_int HR0.out x5_1 p165 q165
        cases e165
        replace p165 := eq_true p165
        replace q165 := eq_true q165
        have p166 : 0 ≤ (x5_1 : Int) := of_decide_eq_true (by first | (with_reducible assumption) | assumption)
        have q166 : x5_1 < (l1.length : Int) := of_decide_eq_true (by first | (with_reducible assumption) | assumption)
        obtain ⟨ad166, e166, hx166_0⟩ := Kd.at_int HR1.out x5_1 p166 q166
        cases e166
        replace p166 := eq_true p166
        replace q166 := eq_true q166
        go_wp2
        repeat (go_quiet (fail); try go_wp2)
        go_ret
        exact ⟨by first | rfl | (simp; done) | (simp [*]; done), by repeat (first | exact Drawn0.refl _ | apply Drawn0.step)⟩
      ·rw [if_neg c6] at H
       exact absurd H (by simp)
     ·rw [if_neg c5] at H
      exact absurd H (by simp)
    ·rw [if_neg c4] at H
     have c4b0 : decide (x5_1 < (l0.length : Int)) = false := decide_eq_false c4
     clear c4
     obtain rfl := Option.some.inj H
     go_wp2
     repeat (go_quiet (fail); try go_wp2)
     go_ret
     exact ⟨by first | rfl | (simp; done) | (simp [*]; done), by repeat (first | exact Drawn0.refl _ | apply Drawn0.step)⟩
 ·rw [if_neg c3] at H
  have c3b0 : ((l0.length : Int) == (l1.length : Int)) = false := beq_eq_false_iff_ne.mpr c3
  have c3b1 : ((l0.length : Int) != (l1.length : Int)) = true := bne_iff_ne.mpr c3
  have c3b2 : (l0.length == l1.length) = false := by first | simpa using c3 | (simp at c3 ⊢; omega)
  obtain rfl := Option.some.inj H
  go_enter Try.func26, Try.ntmps26
  go_wp2
  repeat (go_quiet (fail); try go_wp2)
  go_ret
  exact ⟨by first | rfl | (simp; done) | (simp [*]; done), by repeat (first | exact Drawn0.refl _ | apply Drawn0.step)⟩
end Go.Proofs.Ytegejpcglabhbaa.G
