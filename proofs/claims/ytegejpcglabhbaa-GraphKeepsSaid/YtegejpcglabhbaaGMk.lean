/- Plain law: what Minimal leaves means the same. -/
import Derived.Test.YtegejpcglabhbaaGNc
import Derived.Test.YtegejpcglabhbaaGHm
namespace Go.Proofs.Ytegejpcglabhbaa.G
open Go.RowKit Go.Proofs.YtegejpcglabhbaaW.PrintWords Go.Proofs.YtegejpcglabhbaaW.PrintLast Go.Proofs.YtegejpcglabhbaaW.PrintMore
set_option linter.unusedVariables false
set_option linter.unusedSimpArgs false

/-- Numbers of constraints, ascending, that mean as much as all. -/
structure Kept (n : Nat) (l : List S44) (q : List Int) : Prop where
  which : Which l q
  asc : q.Pairwise (· < ·)
  same : ∀ val, Sol n (allArcs n l q) val ↔ Sol n (sysArcs n l) val
theorem leftB_ne {l : List Int} {x y : Int} : y ∈ leftB (fun z => z == x) l ↔ y ∈ l ∧ y ≠ x := by
  unfold leftB
  rw [List.mem_filter]
  simp
theorem kept_step {n : Nat} {l : List S44} {q : List Int} (h : Kept n l q) {i : Int} (he : Entails n (allArcs n l (leftB (fun x => x == i) q)) (rd_T44 l i)) : Kept n l (leftB (fun x => x == i) q) := by
  refine ⟨fun x hx => h.which x (leftB_ne.1 hx).1, h.asc.sublist List.filter_sublist, fun val => ?_⟩
  rw [← h.same val]
  constructor
  · intro hv
    have h1 := sol_which.1 hv
    refine sol_which.2 ⟨h1.1, h1.2.1, fun x hx => ?_⟩
    by_cases e : x = i
    · rw [e]; exact he val hv
    · exact h1.2.2 x (leftB_ne.2 ⟨hx, e⟩)
  · exact fun hv => sol_less hv fun x hx => (leftB_ne.1 hx).1
theorem minL_kept {n : Nat} {l : List S44} (hs : SysOk n l) {r : List Int} (hr : Least n (sysArcs n l) r) : ∀ (i : Nat) (q : List Int), i ≤ l.length → Kept n l q → ∃ q2, q2.length ≤ q.length ∧ Kept n l q2 ∧ Ev (fun k => minL k n l i q) q2 := by
  intro i
  induction i with
  | zero => intro q _ h; exact ⟨q, Nat.le_refl _, h, Ev.now _⟩
  | succ i ih =>
    intro q hi h
    have hwr : Which l (leftB (fun x => x == (i : Int)) q) := fun x hx => h.which x (leftB_ne.1 hx).1
    have hcc : FitOk n (rd_T44 l (i : Int)) := hs.fit _ (mem_rd44 (by omega) (by omega))
    have hsub : Sol n (allArcs n l (leftB (fun x => x == (i : Int)) q)) (fun v => r.getD v 0) := sol_less ((h.same _).2 hr.sol) fun x hx => (leftB_ne.1 hx).1
    obtain ⟨r2, hr2⟩ := least_sub hs hwr hsub
    obtain ⟨b, h1, h2⟩ := follows_ev hs hwr hr2 hcc
    have hlen := leftB_length (fun x => x == (i : Int)) q
    have hk : Kept n l (if b = true then leftB (fun x => x == (i : Int)) q else q) := by
      cases b with
      | true => exact kept_step h (h2.1 rfl)
      | false => exact h
    obtain ⟨q2, h3, h4, h5⟩ := ih _ (by omega) hk
    exact ⟨q2, by split at h3 <;> omega, h4, Ev.bind h1 h5⟩
theorem kept_all {n : Nat} (l : List S44) : Kept n l (upTo l.length) := ⟨which_upTo l, by
  unfold upTo
  rw [List.pairwise_map]
  exact List.pairwise_lt_range.imp fun h => by omega, fun _ => Iff.rfl⟩
theorem valid_of {n : Nat} {l : List S44} (hn : n ≤ 1200) (hl : l.length ≤ 3000) (h : ∀ c ∈ l, fitsB (n : Int) c = true) : validB (n : Int) l = true := by
  unfold validB
  rw [decide_eq_true (by omega), decide_eq_true (by omega), decide_eq_true hl, Bool.true_and, Bool.true_and, Bool.true_and, List.all_eq_true]
  exact h
theorem valid_fits {n : Int} {l : List S44} (h : validB n l = true) : ∀ c ∈ l, fitsB n c = true := by
  simp only [validB, Bool.and_eq_true, decide_eq_true_eq, List.all_eq_true] at h
  exact h.2.2.2
theorem valid_some {n : Nat} {l : List S44} (hv : validB (n : Int) l = true) {q : List Int} (hw : Which l q) (hq : q.length ≤ 3000) : validB (n : Int) (someOf l q) = true := by
  obtain ⟨m, hm, hs⟩ := valid_ok hv
  obtain rfl : n = m := by omega
  refine valid_of hs.n1 (by unfold someOf; rw [List.length_map]; exact hq) fun c hc => ?_
  obtain ⟨x, hx, rfl⟩ := List.mem_map.1 hc
  exact valid_fits hv _ (mem_rd44 (hw x hx).1 (hw x hx).2)
/-- What Minimal tells, and what that means. -/
theorem keeps_facts (n : Int) (l : List S44) (hl : l.length ≤ 40) : (∃ r e, e ≠ 0 ∧ Ev (fun k => graph_Minimal.f k n l) (r, e)) ∨
    ∃ (m : Nat) (q s : List Int), n = m ∧ Which l q ∧ q.Pairwise (· < ·) ∧ q.length ≤ 40 ∧ s.length ≤ 1200 ∧ Ev (fun k => graph_Minimal.f k n l) (q, 0) ∧ Ev (fun k => graph_Solve.f k n l) (s, 0) ∧ Ev (fun k => graph_Solve.f k n (someOf l q)) (s, 0) ∧
      ∀ i, i < l.length → Ev (fun k => graph_Follows.f k n (someOf l q) (rd_T44 l (i : Int)).f0.f0 (rd_T44 l (i : Int)).f0.f1 (rd_T44 l (i : Int)).f1.f0 (rd_T44 l (i : Int)).f1.f1) (true, 0) := by
  have hg : ∀ k, graph_Minimal.f k n l = if validB n l = true then if 200 < l.length then some ([], 2) else minS k n.toNat l else some ([], 4) := fun _ => rfl
  cases hv : validB n l with
  | false => exact .inl ⟨[], 4, by decide, Ev.congr hg (Ev.neg (by rw [hv]; decide) (Ev.now _))⟩
  | true =>
    obtain ⟨m, rfl, hs⟩ := valid_ok hv
    have hg2 : ∀ r, Ev (fun k => minS k m l) r → Ev (fun k => graph_Minimal.f k (m : Int) l) r := fun r h => Ev.congr hg (Ev.pos hv (Ev.neg (by omega) (by rw [Int.toNat_natCast]; exact h)))
    rcases prog_cases hs with ⟨r, hr, h1⟩ | ⟨hno, h1⟩
    · obtain ⟨q, hq, hk, ⟨K, hK⟩⟩ := minL_kept hs hr l.length (upTo l.length) (Nat.le_refl _) (kept_all l)
      rw [upTo_length] at hq
      have hvs := valid_some hv hk.which (by omega)
      have hss := some_ok hs hk.which (by omega)
      have hsame : ∀ val, Sol m (sysArcs m (someOf l q)) val ↔ Sol m (sysArcs m l) val := fun val => sol_some.trans (hk.same val)
      obtain ⟨r2, hr2, h2⟩ := prog_sol hss ((hsame _).2 hr.sol)
      obtain rfl := hr2.unique hr ((hsame _).1 hr2.sol) ((hsame _).2 hr.sol)
      refine .inr ⟨m, q, r2, rfl, hk.which, hk.asc, by omega, by rw [hr2.len]; exact hs.n1, hg2 _ (Ev.bind h1 (Ev.pos rfl ⟨K, fun k hk => by
          show (minL k m l l.length (upTo l.length)).map (fun r => (r, (0 : Int))) = _
          rw [show minL k m l l.length (upTo l.length) = some q from hK k hk]
          rfl⟩)), Solve_ev hv h1, Solve_ev hvs h2, fun i hi => ?_⟩
      have hmem : rd_T44 l (i : Int) ∈ l := mem_rd44 (by omega) (by omega)
      rcases Follows_ev (m : Int) (someOf l q) (rd_T44 l (i : Int)) with ⟨m2, hm2, _, _, _, _, _, b, h3, h4⟩ | ⟨h, _⟩
      · obtain rfl : m = m2 := by omega
        have hb : b = true := h4.2 fun val hval => (sol_sys.1 ((hsame val).1 hval)).2.2 _ hmem
        rw [← hb]
        exact h3
      · rcases h with h | h | h
        · rw [hvs] at h; cases h
        · rw [valid_fits hv _ hmem] at h; cases h
        · unfold someOf at h; rw [List.length_map] at h; omega
    · exact .inl ⟨[], 20, by decide, hg2 _ (Ev.bind h1 (Ev.neg (by decide) (Ev.now _)))⟩
end Go.Proofs.Ytegejpcglabhbaa.G
