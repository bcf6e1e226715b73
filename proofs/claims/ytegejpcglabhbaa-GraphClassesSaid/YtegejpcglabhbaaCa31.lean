/- A part of this claim's proof: texts of its author, and printed ones, packed by a program of its author's. -/
import Derived.Test.YtegejpcglabhbaaCa27
import Derived.Test.YtegejpcglabhbaaCa30
namespace Go.Proofs.Ytegejpcglabhbaa.G
open Go.RowKit Go.Proofs.YtegejpcglabhbaaW.PrintWords Go.Proofs.YtegejpcglabhbaaW.PrintLast Go.Proofs.YtegejpcglabhbaaW.PrintMore
set_option linter.unusedVariables false
set_option linter.unusedSimpArgs false
theorem clsR_small (R : Nat → Nat → Bool) (n : Nat) : ∀ (d v : Nat) (seen : List Bool) (sets : List (List Int)), (∀ s ∈ sets, s.length ≤ n) → (∀ s ∈ clsR R n d v seen sets, s.length ≤ n) ∧ (clsR R n d v seen sets).length ≤ sets.length + d
 | 0, v, seen, sets, h => ⟨h, Nat.le_refl _⟩
 | d + 1, v, seen, sets, h => by
  simp only [clsR]
  split
  ·have := clsR_small R n d (v + 1) seen sets h
   exact ⟨this.1, by omega⟩
  ·have hl := (setR_length R v (n - v) v [] seen).1
   have hm : (∀ s ∈ moreSets sets (setR R v (n - v) v [] seen).1, s.length ≤ n) ∧ (moreSets sets (setR R v (n - v) v [] seen).1).length ≤ sets.length + 1 := by
    unfold moreSets
    split
    ·refine ⟨fun s hs => ?_, by rw [List.length_append, List.length_singleton]; omega⟩
     rcases List.mem_append.1 hs with h1 | h1
     ·exact h s h1
     ·rw [List.mem_singleton.1 h1]
      simp only [List.length_nil] at hl
      omega
    ·exact ⟨h, by omega⟩
   have := clsR_small R n d (v + 1) (setR R v (n - v) v [] seen).2 _ hm.1
   exact ⟨this.1, by omega⟩
theorem rd_L8_nat {l : List (List Int)} {i : Nat} (h : i < l.length) : rd_L8 l (i : Int) = l[i] := by
 unfold rd_L8
 rw [Int.toNat_natCast, List.getD_eq_getElem?_getD, List.getElem?_eq_getElem h]
 rfl
theorem ev_eqcls (l : List (List Int)) (hl : l.length ≤ 1000000) (h : ∀ s ∈ l, s.length ≤ 1000000) : Ev (fun k => tenetlaw02_eqClasses.f k l l) true := by
 have key : ∀ d i, d + i = l.length → Ev (fun k => tenetlaw02_eqClasses.l0 k l l (i : Int)) true := by
  intro d
  induction d with
  | zero => intro i hd; exact Ev.step (fun k => tenetlaw02_eqClasses.l0.eq_2 ..) (Ev.neg (by omega) (Ev.now _))
  | succ d ih =>
   intro i hd
   have hi : i < l.length := by omega
   refine Ev.step (fun k => tenetlaw02_eqClasses.l0.eq_2 ..) (Ev.pos (by omega) (Ev.pos (by omega) (Ev.pos (by omega) ?_)))
   rw [rd_L8_nat hi, w64n _ (by omega)]
   exact Ev.bind ⟨l[i].length + 1, fun k hk => eqints_eq l[i] (h _ (List.getElem_mem hi)) k hk⟩ (Ev.pos rfl (ih (i + 1) (by omega)))
 exact Ev.pos rfl (key l.length 0 (by omega))
theorem classes_small {n : Int} {l : List S44} {r : List (List Int) × Int} (hr : (validB n l = false ∧ r = ([], 4)) ∨ ∃ m : Nat, n = m ∧ validB n l = true ∧ SysOk m l ∧ (((¬ ∃ val, Sol m (sysArcs m l) val) ∧ r = ([], 20)) ∨ ∃ s, Least m (sysArcs m l) s ∧ r = (clsR (same (sysArcs m l) s) m m 0 (List.replicate m false) [], 0))) :
  r.1.length ≤ 1000000 ∧ ∀ s ∈ r.1, s.length ≤ 1000000 := by
 rcases hr with ⟨_, rfl⟩ | ⟨m, _, _, hs, ⟨_, rfl⟩ | ⟨s, _, rfl⟩⟩
 ·exact ⟨Nat.zero_le _, fun s hs => (by cases hs)⟩
 ·exact ⟨Nat.zero_le _, fun s hs => (by cases hs)⟩
 ·have h := clsR_small (same (sysArcs m l) s) m m 0 (List.replicate m false) [] (fun s hs => (by cases hs))
  have hn := hs.n1
  have h2 : (clsR (same (sysArcs m l) s) m m 0 (List.replicate m false) []).length ≤ 0 + m := h.2
  exact ⟨by show (clsR _ _ _ _ _ _).length ≤ _; omega, fun t ht => Nat.le_trans (h.1 t ht) (by omega)⟩
theorem GraphClasses_pure (n : Int) (l : List S44) : ∃ k, tenetlaw02_GraphClasses.f k n l = some true := by
 refine Ev.rounds (g := fun k => tenetlaw02_GraphClasses.f k n l) ?_
 obtain ⟨r, h1, h2, h3⟩ := Classes_both n l
 obtain ⟨h4, h5⟩ := classes_small h3
 rcases ev_heavy n l 120 (by omega) with h | ⟨_, _, h⟩
 ·exact Ev.bind h (Ev.pos rfl (Ev.bind ev_awake (Ev.now _)))
 ·exact Ev.bind h (Ev.neg (by decide) (Ev.bind h1 (Ev.bind h2 (Ev.pos rfl (Ev.bind (ev_eqcls r.1 h4 h5) (Ev.pos rfl (Ev.bind ev_awake (Ev.now _))))))))
end Go.Proofs.Ytegejpcglabhbaa.G
