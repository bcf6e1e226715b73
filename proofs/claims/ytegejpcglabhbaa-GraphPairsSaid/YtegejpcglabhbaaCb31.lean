/- A part of this claim's proof: texts of its author, and printed ones, packed by a program of its author's. -/
import Derived.Test.YtegejpcglabhbaaCb27
import Derived.Test.YtegejpcglabhbaaCb30
namespace Go.Proofs.Ytegejpcglabhbaa.G
open Go.RowKit Go.Proofs.YtegejpcglabhbaaW.PrintWords Go.Proofs.YtegejpcglabhbaaW.PrintLast Go.Proofs.YtegejpcglabhbaaW.PrintMore
set_option linter.unusedVariables false
set_option linter.unusedSimpArgs false
theorem clsR_small (R : Nat → Nat → Bool) (n : Nat) : ∀ (d v : Nat) (seen : List Bool) (sets : List (List Int)), (∀ s ∈ sets, s.length ≤ n) → (∀ s ∈ clsR R n d v seen sets, s.length ≤ n) ∧ (clsR R n d v seen sets).length ≤ sets.length + d
 | 0, v, seen, sets, h => ⟨h, Nat.le_refl _⟩
 | d + 1, v, seen, sets, h => by
  simp only [clsR]
  split
  ·have := clsR_small R n d (v + 1) seen sets h
   exact ⟨this.1, by omega⟩
  ·have hl := (setR_length R v (n - v) v [] seen).1
   have hm : (∀ s ∈ moreSets sets (setR R v (n - v) v [] seen).1, s.length ≤ n) ∧ (moreSets sets (setR R v (n - v) v [] seen).1).length ≤ sets.length + 1 := by
    unfold moreSets
    split
    ·refine ⟨fun s hs => ?_, by rw [List.length_append, List.length_singleton]; omega⟩
     rcases List.mem_append.1 hs with h1 | h1
     ·exact h s h1
     ·rw [List.mem_singleton.1 h1]
      simp only [List.length_nil] at hl
      omega
    ·exact ⟨h, by omega⟩
   have := clsR_small R n d (v + 1) (setR R v (n - v) v [] seen).2 _ hm.1
   exact ⟨this.1, by omega⟩
theorem rd_L8_nat {l : List (List Int)} {i : Nat} (h : i < l.length) : rd_L8 l (i : Int) = l[i] := by
 unfold rd_L8
 rw [Int.toNat_natCast, List.getD_eq_getElem?_getD, List.getElem?_eq_getElem h]
 rfl
theorem classes_small {n : Int} {l : List S44} {r : List (List Int) × Int} (hr : (validB n l = false ∧ r = ([], 4)) ∨ ∃ m : Nat, n = m ∧ validB n l = true ∧ SysOk m l ∧ (((¬ ∃ val, Sol m (sysArcs m l) val) ∧ r = ([], 20)) ∨ ∃ s, Least m (sysArcs m l) s ∧ r = (clsR (same (sysArcs m l) s) m m 0 (List.replicate m false) [], 0))) :
  r.1.length ≤ 1000000 ∧ ∀ s ∈ r.1, s.length ≤ 1000000 := by
 rcases hr with ⟨_, rfl⟩ | ⟨m, _, _, hs, ⟨_, rfl⟩ | ⟨s, _, rfl⟩⟩
 ·exact ⟨Nat.zero_le _, fun s hs => (by cases hs)⟩
 ·exact ⟨Nat.zero_le _, fun s hs => (by cases hs)⟩
 ·have h := clsR_small (same (sysArcs m l) s) m m 0 (List.replicate m false) [] (fun s hs => (by cases hs))
  have hn := hs.n1
  have h2 : (clsR (same (sysArcs m l) s) m m 0 (List.replicate m false) []).length ≤ 0 + m := h.2
  exact ⟨by show (clsR _ _ _ _ _ _).length ≤ _; omega, fun t ht => Nat.le_trans (h.1 t ht) (by omega)⟩
end Go.Proofs.Ytegejpcglabhbaa.G
