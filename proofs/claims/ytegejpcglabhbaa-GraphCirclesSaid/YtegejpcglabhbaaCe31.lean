/- A part of this claim's proof: texts of its author, and printed ones, packed by a program of its author's. -/
import Derived.Test.YtegejpcglabhbaaCe27
import Derived.Test.YtegejpcglabhbaaCe30
import Derived.Test.YtegejpcglabhbaaCe25
namespace Go.Proofs.Ytegejpcglabhbaa.G
open Go.RowKit Go.Proofs.YtegejpcglabhbaaW.PrintWords Go.Proofs.YtegejpcglabhbaaW.PrintLast Go.Proofs.YtegejpcglabhbaaW.PrintMore
set_option linter.unusedVariables false
set_option linter.unusedSimpArgs false
section
section
variable {R : Nat → Nat → Bool} {n : Nat}
end
section
variable {n : Nat} {E : List S105} {s : List Int}
theorem Lead.rise {val : Nat → Int} (hv : Sol n E val) {a b : Nat} (h : Lead (tightP E s) a b) : val a + (s.getD b 0 - s.getD a 0) ≤ val b := by
 induction h with
 | start => omega
 | @step x y _ h2 ih =>
  obtain ⟨e, he, h3, h4, h5⟩ := h2
  have := hv.arc e he
  rw [h3, h4, Int.toNat_natCast, Int.toNat_natCast] at this
  omega
open Classical in
theorem equal_iff (hL : Least n E s) (hnat : ∀ v, v < n → ∃ a ∈ E, a.f0 = n ∧ a.f1 = (v : Int) ∧ a.f2 = 0) (hE : ArcsOk n E) {a b : Nat} (ha : a < n) (hb : b < n) :
  same E s a b = true ↔ ∀ val, Sol n E val → val a = val b := by
 constructor
 ·intro h val hv
  obtain ⟨h1, h2, h3⟩ := same_iff.1 h
  have := h1.rise hv
  have := h2.rise hv
  omega
 ·intro h
  have hlead : ∀ x y, x < n → y < n → (∀ val, Sol n E val → val x = val y) → Lead (tightP E s) x y := fun x y hx hy heq => by
   refine Classical.byContradiction fun hno => ?_
   have hz : s.getD n 0 = 0 := hL.sol.zero
   by_cases hn : Lead (tightP E s) x n
   ·have hS : Sol n E (fun u => if Lead (tightP E s) x u then s.getD u 0 else s.getD u 0 - 1) := by
     refine ⟨by rw [if_pos hn]; exact hz, fun e he => ?_⟩
     have h1 := hL.sol.arc e he
     have h2 := hE e he
     (try dsimp only at h1); (try dsimp only)
     by_cases c1 : Lead (tightP E s) x e.f0.toNat
     ·by_cases c2 : Lead (tightP E s) x e.f1.toNat
      ·rw [if_pos c1, if_pos c2]; exact h1
      ·rw [if_pos c1, if_neg c2]
       have : s.getD e.f0.toNat 0 + e.f2 ≠ s.getD e.f1.toNat 0 := fun e3 => c2 (c1.step ⟨e, he, by omega, by omega, e3⟩)
       omega
     ·rw [if_neg c1]
      split <;> omega
    have h1 := hL.le hS y (by omega)
    (try dsimp only at h1)
    rw [if_neg hno] at h1
    omega
   ·have hS : Sol n E (fun u => if Lead (tightP E s) x u then s.getD u 0 + 1 else s.getD u 0) := by
     refine ⟨by rw [if_neg hn]; exact hz, fun e he => ?_⟩
     have h1 := hL.sol.arc e he
     have h2 := hE e he
     (try dsimp only at h1); (try dsimp only)
     by_cases c1 : Lead (tightP E s) x e.f0.toNat
     ·by_cases c2 : Lead (tightP E s) x e.f1.toNat
      ·rw [if_pos c1, if_pos c2]; omega
      ·rw [if_pos c1, if_neg c2]
       have : s.getD e.f0.toNat 0 + e.f2 ≠ s.getD e.f1.toNat 0 := fun e3 => c2 (c1.step ⟨e, he, by omega, by omega, e3⟩)
       omega
     ·rw [if_neg c1]
      split <;> omega
    have h1 := heq _ hS
    have h2 := heq _ hL.sol
    (try dsimp only at h1 h2)
    rw [if_pos .start, if_neg hno] at h1
    omega
  exact same_iff.2 ⟨hlead a b ha hb h, hlead b a hb ha (fun val hv => (h val hv).symm), (h _ hL.sol).symm⟩
end
theorem ev_at (v p : Int) : Ev (fun k => tenetlaw02_at.f v p) (0, [⟨v, p⟩]) := ⟨0, fun k _ => rfl⟩
end
end Go.Proofs.Ytegejpcglabhbaa.G
