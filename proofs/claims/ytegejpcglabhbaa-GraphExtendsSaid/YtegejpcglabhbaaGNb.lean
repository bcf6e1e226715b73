/- Plain law: both solve alike. -/
import Derived.Test.YtegejpcglabhbaaGNa
import Derived.Test.YtegejpcglabhbaaGNr
namespace Go.Proofs.Ytegejpcglabhbaa.G
open Go.RowKit Go.Proofs.YtegejpcglabhbaaW.PrintWords Go.Proofs.YtegejpcglabhbaaW.PrintLast Go.Proofs.YtegejpcglabhbaaW.PrintMore
set_option linter.unusedVariables false
set_option linter.unusedSimpArgs false

/-- Either a system has a least solution, and both tell it, or it has none, and both say so. -/
theorem solve_cases {n : Nat} {l : List S44} (hs : SysOk n l) :
    (∃ r, Least n (sysArcs n l) r ∧ Ev (fun k => solvedN k n l) (r, 0) ∧ Ev (fun k => tenetref02_solve.f k (n : Int) l) (r, true)) ∨
    ((¬ ∃ val, Sol n (sysArcs n l) val) ∧ Ev (fun k => solvedN k n l) ([], 20) ∧ Ev (fun k => tenetref02_solve.f k (n : Int) l) ([], false)) := by
  obtain ⟨R, ⟨N, hN⟩, hR⟩ := search_spec hs (which_upTo l) (Nat.le_refl n)
  have hsolve : Ev (fun k => solvedN k n l) (solvedOf n R) := ⟨N, fun k hk => by
    show (search k n l (upTo l.length) n).map (solvedOf n) = _
    rw [show search k n l (upTo l.length) (n : Int) = some R from hN k hk]
    rfl⟩
  have href := ref_solve hs hR
  cases R with
  | loop lp =>
    refine .inr ⟨fun ⟨val, hv⟩ => hv.no_loop hR.2, hsolve, 6000, fun k hk => href k hk⟩
  | done st =>
    exact .inl ⟨_, least_of hs (which_upTo l) hR, hsolve, 6000, fun k hk => href k hk⟩
theorem solve_sol {n : Nat} {l : List S44} (hs : SysOk n l) {val : Nat → Int} (hv : Sol n (sysArcs n l) val) : ∃ r, Least n (sysArcs n l) r ∧ Ev (fun k => solvedN k n l) (r, 0) ∧ Ev (fun k => tenetref02_solve.f k (n : Int) l) (r, true) := by
  rcases solve_cases hs with h | ⟨h, _⟩
  · exact h
  · exact (h ⟨val, hv⟩).elim
theorem RSolve_ev {n : Nat} {l : List S44} (hv : validB (n : Int) l = true) {r : List Int} {b : Bool} (h : Ev (fun k => tenetref02_solve.f k (n : Int) l) (r, b)) : Ev (fun k => tenetref02_Solve.f k (n : Int) l) (if b = true then (r, 0) else ([], 20)) := by
  refine Ev.bind (ev_valid n l) ?_
  refine Ev.pos hv ?_
  refine Ev.bind h ?_
  cases b with
  | true => exact Ev.pos rfl (Ev.now _)
  | false => exact Ev.neg (show ¬ (false = true) by decide) (Ev.now _)
end Go.Proofs.Ytegejpcglabhbaa.G
