/- Plain law: the reference's Bad is the program's; a way is a row of steps. No condition. -/
import Derived.Test.YtiepinfcndefhaaVh
namespace Go.Proofs.Ytiepinfcndefhaa.S
open Go.RowKit Go.Proofs.YtiepinfcndefhaaW.PrintWords Go.Proofs.YtiepinfcndefhaaW.PrintLast Go.Proofs.YtiepinfcndefhaaW.PrintMore
set_option linter.unusedVariables false
set_option linter.unusedSimpArgs false

theorem callG_inj {g h : Gr} (hg : GTab g) (hh : GTab h) (e : callG g = callG h) : g = h := by
  obtain ⟨s, d, t⟩ := g
  obtain ⟨s2, d2, t2⟩ := h
  simp only [callG, Cl.mk.injEq] at e
  obtain ⟨rfl, rfl, e3⟩ := e
  have h1 := tabC_arcsN hg
  have h2 := tabC_arcsN hh
  rw [show t = t2 from h1.symm.trans ((congrArg tabC e3).trans h2)]
theorem rbad_eq {g : Gr} (hg : GTab g) : rbadF (callG g) = badB g := by
  have ht : tabC (callG g).arcs = g.tab := tabC_arcsN hg
  have hs : (callG g).src = g.src := rfl
  have hd : (callG g).dst = g.dst := rfl
  unfold rbadF badB loopB
  rw [ht, hs, hd, eqC_iff, Bool.and_assoc]
  by_cases e : g.src = g.dst
  · rw [decide_eq_true e, Bool.true_and, Bool.true_and]
    congr 1
    by_cases e2 : thenG g g = g
    · rw [decide_eq_true e2]
      exact decide_eq_true (by rw [show (⟨g.src, g.dst, comp g.tab g.tab⟩ : Gr) = g from e2])
    · rw [decide_eq_false e2]
      exact decide_eq_false fun e3 => e2 (callG_inj (g := ⟨g.src, g.dst, comp g.tab g.tab⟩) (h := g) (comp_tab hg hg) hg e3)
  · rw [decide_eq_false e, Bool.false_and, Bool.false_and]
theorem path_pos {first : List Gr} {g : Gr} {w : List Int} (h : Path first g w) : 0 < w.length := by
  cases h <;> simp
theorem rd_left {l m : List Int} {i : Nat} (h : i < l.length) : rd (l ++ m) (i : Int) = rd l (i : Int) := by
  simp [rd, List.getElem?_append_left h, List.getD_eq_getElem?_getD]
theorem rd_last (l : List Int) (x : Int) : rd (l ++ [x]) (l.length : Int) = x := by
  simp [rd, List.getD_eq_getElem?_getD]
/-- A way is a row of steps. -/
theorem path_steps {l : List Cl} {first : List Gr} (hr : readL l = some first) {g : Gr} {w : List Int} (h : Path first g w) :
    ∃ G : Nat → Gr, G w.length = g ∧ (∀ i, i < w.length → StepAt l w G i) ∧ ∀ i, 0 < i → i ≤ w.length → GTab (G i) := by
  obtain ⟨hlen, hget⟩ := readL_get l first hr
  have htab := readL_tab hr
  have hat : ∀ {i : Nat} {h : Gr}, first[i]? = some h → ∃ c : Cl, l[i]? = some c ∧ c.arcs.all okA = true ∧ h = ⟨c.src, c.dst, tabC c.arcs⟩ := by
    intro i h hi
    obtain ⟨h2, h3⟩ := List.getElem?_eq_some_iff.1 hi
    have h1 : i < l.length := by omega
    have h4 := hget i h1 h2
    rw [h3, readC_val] at h4
    cases hv : valC l[i] with
    | false => rw [hv] at h4; simp at h4
    | true =>
      rw [hv] at h4
      exact ⟨l[i], List.getElem?_eq_getElem h1, arcs_ok hv, by simpa using h4.symm⟩
  induction h with
  | @one i g hi =>
    obtain ⟨c, hc1, hc2, hc3⟩ := hat hi
    refine ⟨fun _ => g, rfl, fun j hj => ?_, fun _ _ _ => htab g (List.mem_of_getElem? hi)⟩
    have : j = 0 := by simpa using hj
    subst this
    exact ⟨i, c, by simp [rd], hc1, hc2, fun _ => hc3, fun h => absurd h (by omega)⟩
  | @more g h w i hp hi hd ih =>
    obtain ⟨G, hG1, hG2, hG3⟩ := ih
    obtain ⟨c, hc1, hc2, hc3⟩ := hat hi
    have hw := path_pos hp
    have hgt := path_tab htab hp
    obtain ⟨G', hA, hB⟩ : ∃ G' : Nat → Gr, (∀ j, j ≤ w.length → G' j = G j) ∧ G' (w.length + 1) = thenG g h := ⟨fun j => if j ≤ w.length then G j else thenG g h, fun j hj => if_pos hj, if_neg (by omega)⟩
    refine ⟨G', by rw [List.length_append, List.length_singleton]; exact hB, fun j hj => ?_, fun j h0 h1 => ?_⟩
    · rw [List.length_append, List.length_singleton] at hj
      by_cases hjl : j < w.length
      · obtain ⟨k, c', q1, q2, q3, q4, q5⟩ := hG2 j hjl
        refine ⟨k, c', by rw [rd_left hjl]; exact q1, q2, q3, fun e => ?_, fun e => ?_⟩
        · rw [hA 1 (by omega)]
          exact q4 e
        · rw [hA j (by omega), hA (j + 1) (by omega)]
          exact q5 e
      · obtain rfl : j = w.length := by omega
        refine ⟨i, c, rd_last w _, hc1, hc2, fun e => absurd e (by omega), fun _ => ?_⟩
        rw [hA w.length (Nat.le_refl _), hB, hG1]
        rw [hc3] at hd
        exact ⟨hd, by rw [hc3]; rfl⟩
    · rw [List.length_append, List.length_singleton] at h1
      by_cases hjl : j ≤ w.length
      · rw [hA j hjl]
        exact hG3 j h0 hjl
      · obtain rfl : j = w.length + 1 := by omega
        rw [hB]
        exact thenG_tab hgt (htab h (List.mem_of_getElem? hi))
end Go.Proofs.Ytiepinfcndefhaa.S
