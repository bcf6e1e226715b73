/- Plain law: what the calls of a set are, and the closure by it. No condition. -/
import Derived.Test.YtiepinfcndefhaaVn
namespace Go.Proofs.Ytiepinfcndefhaa.S
set_option linter.unusedVariables false
set_option linter.unusedSimpArgs false

def fC (c : Cl) : Gr := ⟨c.src, c.dst, tabC c.arcs⟩
theorem readL_val : ∀ l : List Cl, readL l = if l.all valC = true then some (l.map fC) else none
  | [] => rfl
  | c :: l => by
    simp only [readL, List.all_cons, List.map_cons]
    rw [readC_val, readL_val l]
    cases h : valC c with
    | false => simp
    | true =>
      cases h2 : l.all valC with
      | false => simp
      | true => simp [fC]
theorem fC_tab {c : Cl} (h : valC c = true) : GTab (fC c) := readC_tab (show readC c = some (fC c) by rw [readC_val, if_pos h]; rfl)
theorem closedF_bad {l : List Cl} (hl : l.length ≤ 60) (h : l.all valC = false) : closedF l 4 2 = (none, 4) := by
  unfold closedF
  rw [if_neg (by omega), readL_val, h]
  rfl
theorem closedF_good {l : List Cl} (hl : l.length ≤ 60) (h : l.all valC = true) : (∃ a, closedF l 4 2 = (some a, 0) ∧ closedQ (l.map fC) = some a) ∨ (closedF l 4 2 = (none, 2) ∧ closedQ (l.map fC) = none) := by
  unfold closedF
  rw [if_neg (by omega), readL_val, if_pos h]
  cases hc : closedQ (l.map fC) with
  | none => exact .inr ⟨by simp [hc], rfl⟩
  | some a => exact .inl ⟨a, by simp [hc], rfl⟩
end Go.Proofs.Ytiepinfcndefhaa.S
