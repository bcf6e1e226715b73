/- Plain law: what follows holds, and more constraints keep it. -/
import Derived.Test.YtegejpcglabhbaaGNc
import Derived.Test.YtegejpcglabhbaaGNh
namespace Go.Proofs.Ytegejpcglabhbaa.G
open Go.RowKit Go.Proofs.YtegejpcglabhbaaW.PrintWords Go.Proofs.YtegejpcglabhbaaW.PrintLast Go.Proofs.YtegejpcglabhbaaW.PrintMore
set_option linter.unusedVariables false
set_option linter.unusedSimpArgs false

theorem valid_of {n : Nat} {l : List S44} (hn : n ≤ 1200) (hl : l.length ≤ 3000) (h : ∀ c ∈ l, fitsB (n : Int) c = true) : validB (n : Int) l = true := by
  unfold validB
  rw [decide_eq_true (by omega), decide_eq_true (by omega), decide_eq_true hl, Bool.true_and, Bool.true_and, Bool.true_and, List.all_eq_true]
  exact h
theorem valid_fits {n : Int} {l : List S44} (h : validB n l = true) : ∀ c ∈ l, fitsB n c = true := by
  simp only [validB, Bool.and_eq_true, decide_eq_true_eq, List.all_eq_true] at h
  exact h.2.2.2
theorem ev_constraint (n : Int) (c : S44) : Ev (fun k => tenetref02_Constraint.f k n c.f0.f0 c.f0.f1 c.f1.f0 c.f1.f1) (fitsB n c) := ⟨200, fun k hk => constraint_eq n c k hk⟩
theorem least_far {n : Nat} {E : List S105} {r : List Int} (h : Least n E r) : r.any farB = false := by
  rw [List.any_eq_false]
  intro v hv
  obtain ⟨i, hi, rfl⟩ := List.mem_iff_getElem.1 hv
  have h1 := h.low i
  have h2 := h.high i
  rw [List.getD_eq_getElem?_getD, List.getElem?_eq_getElem hi] at h1 h2
  have h3 : 0 ≤ r[i] := h1
  have h4 : r[i] ≤ 1200000 := h2
  simp only [farB, Bool.or_eq_true, decide_eq_true_eq, not_or]
  omega
theorem holds_one {n : Nat} {l : List S44} {C : S44} {r : List Int} (hn : n ≤ 1200) (hr : Least n (sysArcs n l) r) (hC : fitsB (n : Int) C = true) (he : Entails n (sysArcs n l) C) : Ev (fun k => graph_Holds.f k (n : Int) [C] r) (-1, 0) := by
  have hv : validB (n : Int) [C] = true := valid_of hn (by simp) fun c hc => by rw [List.mem_singleton.1 hc]; exact hC
  obtain ⟨m, hm, hs⟩ := valid_ok hv
  obtain rfl : n = m := by omega
  have hlen := hr.len
  have h0 := (sol_sys.1 hr.sol)
  have h1 : Sol n (sysArcs n [C]) (fun v => r.getD v 0) := sol_sys.2 ⟨h0.1, h0.2.1, fun c hc => by rw [List.mem_singleton.1 hc]; exact he _ hr.sol⟩
  have h2 : idxB (brokenB r) [C] 0 = -1 := (idxB_neg (brokenB r) [C] 0).1.2 ((holds_sol hs hlen hr.low).2 h1)
  exact ⟨0, fun k _ => by
    show graph_Holds.f k (n : Int) [C] r = _
    unfold graph_Holds.f
    rw [if_pos hv, if_pos (by omega), if_neg (by rw [least_far hr]; decide), h2]⟩
/-- What the law asks, for one system and two constraints. -/
theorem more_facts (n : Int) (l : List S44) (C D : S44) (hl : l.length ≤ 60) (hv : validB n l = true) (hC : fitsB n C = true) (hD : fitsB n D = true) :
    (∀ i, i < l.length → Ev (fun k => graph_Follows.f k n l (rd_T44 l (i : Int)).f0.f0 (rd_T44 l (i : Int)).f0.f1 (rd_T44 l (i : Int)).f1.f0 (rd_T44 l (i : Int)).f1.f1) (true, 0)) ∧
    ∃ ok, Ev (fun k => graph_Follows.f k n l C.f0.f0 C.f0.f1 C.f1.f0 C.f1.f1) (ok, 0) ∧ (ok = true →
      (∃ s e, s.length ≤ 1200 ∧ Ev (fun k => graph_Solve.f k n l) (s, e) ∧ (e = 0 → Ev (fun k => graph_Holds.f k n [C] s) (-1, 0))) ∧
      Ev (fun k => graph_Follows.f k n (l ++ [D]) C.f0.f0 C.f0.f1 C.f1.f0 C.f1.f1) (true, 0)) := by
  have hfit := valid_fits hv
  obtain ⟨m, rfl, hs⟩ := valid_ok hv
  refine ⟨fun i hi => ?_, ?_⟩
  · have hmem : rd_T44 l (i : Int) ∈ l := mem_rd44 (by omega) (by omega)
    rcases Follows_ev (m : Int) l (rd_T44 l (i : Int)) with ⟨m2, hm2, _, _, _, _, _, b, h3, h4⟩ | ⟨h, _⟩
    · obtain rfl : m = m2 := by omega
      have hb : b = true := h4.2 fun val hval => (sol_sys.1 hval).2.2 _ hmem
      rw [← hb]
      exact h3
    · rcases h with h | h | h
      · rw [hv] at h; cases h
      · rw [hfit _ hmem] at h; cases h
      · omega
  · rcases Follows_ev (m : Int) l C with ⟨m2, hm2, _, _, _, _, _, b, h3, h4⟩ | ⟨h, _⟩
    · obtain rfl : m = m2 := by omega
      refine ⟨b, h3, fun hb => ?_⟩
      have he := h4.1 hb
      refine ⟨?_, ?_⟩
      · rcases prog_cases hs with ⟨r, hr, h5⟩ | ⟨hno, h5⟩
        · exact ⟨r, 0, by rw [hr.len]; exact hs.n1, Solve_ev hv h5, fun _ => holds_one hs.n1 hr hC he⟩
        · exact ⟨[], 20, by simp, Solve_ev hv h5, fun h => by cases h⟩
      · have hv2 : validB (m : Int) (l ++ [D]) = true := valid_of hs.n1 (by simp; omega) fun c hc => by
          rcases List.mem_append.1 hc with hc | hc
          · exact hfit c hc
          · rw [List.mem_singleton.1 hc]; exact hD
        rcases Follows_ev (m : Int) (l ++ [D]) C with ⟨m3, hm3, _, _, _, _, _, b2, h6, h7⟩ | ⟨h, _⟩
        · obtain rfl : m = m3 := by omega
          have hb2 : b2 = true := h7.2 fun val hval => he val (by
            have h8 := sol_sys.1 hval
            exact sol_sys.2 ⟨h8.1, h8.2.1, fun c hc => h8.2.2 c (List.mem_append_left _ hc)⟩)
          rw [← hb2]
          exact h6
        · rcases h with h | h | h
          · rw [hv2] at h; cases h
          · rw [hC] at h; cases h
          · simp at h; omega
    · rcases h with h | h | h
      · rw [hv] at h; cases h
      · rw [hC] at h; cases h
      · omega
end Go.Proofs.Ytegejpcglabhbaa.G
