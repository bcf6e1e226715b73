/- Plain law: searches from any node, the program's and the reference's; GraphBounds answers true. -/
import Derived.Test.YtegejpcglabhbaaGNb
import Derived.Test.YtegejpcglabhbaaGHb
import Derived.Test.YtegejpcglabhbaaGf6
namespace Go.Proofs.Ytegejpcglabhbaa.G
open Go.RowKit Go.Proofs.YtegejpcglabhbaaW.PrintWords Go.Proofs.YtegejpcglabhbaaW.PrintLast Go.Proofs.YtegejpcglabhbaaW.PrintMore
set_option linter.unusedVariables false
set_option linter.unusedSimpArgs false

theorem ev_edges {n : Nat} {l : List S44} (hs : SysOk n l) : Ev (fun k => tenetref02_edges.f k (n : Int) l) ((sysArcs n l).map toE) := ⟨5000, fun k hk => edges_eq n l hs k hk⟩
theorem ev_longest {n : Nat} {E : List S105} (hn : n ≤ 1200) (hE : ArcsOk n E) {s : Nat} (hsn : s ≤ n) : Ev (fun k => tenetref02_longest.f k (n : Int) (E.map toE) (s : Int)) (lrounds (E.map toE) (n + 2) (outInit n s)) := ⟨0, fun k _ => by
  have hok : edgesOk (n : Int).toNat (E.map toE) := by
    intro e he
    obtain ⟨a, ha, rfl⟩ := List.mem_map.1 he
    have := hE a ha
    rw [Int.toNat_natCast]
    simp only [toE]
    omega
  show tenetref02_longest.f k (n : Int) (E.map toE) (s : Int) = _
  unfold tenetref02_longest.f
  rw [if_pos ⟨by omega, by omega, by omega, by omega, hok⟩, Int.toNat_natCast, Int.toNat_natCast]
  rfl⟩
/-- A search from a node of a system that has a solution: the program's and the reference's. -/
theorem search_both {n : Nat} {l : List S44} (hs : SysOk n l) {which : List Int} (hw : Which l which) (hw3 : which.length ≤ 3000) {val : Nat → Int} (hv : Sol n (allArcs n l which) val) {s : Nat} (hsn : s ≤ n) :
    ∃ st, Ev (fun k => search k n l which (s : Int)) (.done st) ∧ Longest n (allArcs n l which) s (kn st) (sm st) ∧ (∀ v, v ≤ n → kn st v = true → -(1000 * (n + 1 : Nat) : Int) ≤ sm st v ∧ sm st v ≤ 1000 * (n : Int)) ∧
    ∃ out, Ev (fun k => tenetref02_longest.f k (n : Int) ((allArcs n l which).map toE) (s : Int)) (out, true) ∧ out.length = n + 1 ∧ ∀ v, v ≤ n → isR out v = kn st v ∧ dR out v = if kn st v = true then sm st v else 0 := by
  have hE := sys_arcs hs hw
  obtain ⟨R, hR, hP⟩ := search_spec hs hw hsn
  obtain ⟨st, rfl⟩ := far_sol hP hv
  obtain ⟨hl, _, _, hb⟩ := far_done hP hs.n1 hE hsn
  obtain ⟨_, out, ho, hol, hov⟩ := ref_longest hs.n1 hE hsn (sys_len hs hw hw3) _ hP
  refine ⟨st, hR, hl, hb, out, ?_, hol, hov⟩
  rw [← ho]
  exact ev_longest hs.n1 hE hsn
theorem rd94 (out : List S94) (v : Nat) : (rd_T94 out (v : Int)).f0 = isR out v ∧ (rd_T94 out (v : Int)).f1 = dR out v := by
  unfold rd_T94 isR dR
  rw [Int.toNat_natCast]
  exact ⟨rfl, rfl⟩
/-- What Bound tells. -/
theorem bound_cases (n : Int) (l : List S44) (v : Int) : ∃ r : Int × Bool × Int, Ev (fun k => graph_Bound.f k n l v) r ∧ Ev (fun k => tenetref02_Bound.f k n l v) r := by
  cases hv : validB n l with
  | false =>
    exact ⟨(0, false, 4), ⟨0, fun k _ => by show graph_Bound.f k n l v = _; unfold graph_Bound.f; rw [hv, if_neg (by decide)]⟩, Ev.bind (ev_valid n l) (Ev.neg (by rw [hv]; decide) (Ev.now _))⟩
  | true =>
    obtain ⟨m, rfl, hs⟩ := valid_ok hv
    by_cases hr : v < 0 ∨ (m : Int) ≤ v
    · have hj : Ev (fun k => tenetref02_Bound.j0 k (m : Int) l v true) ((0 : Int), false, (1 : Int)) := Ev.step (fun k => tenetref02_Bound.j0.eq_2 ..) (Ev.pos rfl (Ev.now _))
      refine ⟨(0, false, 1), ⟨0, fun k _ => by show graph_Bound.f k m l v = _; unfold graph_Bound.f; rw [if_pos hv, if_pos hr]⟩, Ev.bind (ev_valid m l) (Ev.pos hv (Ev.both (fun _ => hj) (fun h => ?_)))⟩
      rw [decide_eq_true (show v ≥ (m : Int) by omega)]
      exact hj
    · obtain ⟨u, rfl⟩ := Int.eq_ofNat_of_zero_le (show 0 ≤ v by omega)
      have hum : u < m := by omega
      have hg : ∀ k, graph_Bound.f k (m : Int) l (u : Int) = boundN k m l (u : Int) := fun k => by
        unfold graph_Bound.f
        rw [if_pos hv, if_neg hr, Int.toNat_natCast]
      have href : ∀ r, Ev (fun k => tenetref02_Bound.j0 k (m : Int) l (u : Int) false) r → Ev (fun k => tenetref02_Bound.f k (m : Int) l (u : Int)) r := fun r h => by
        refine Ev.bind (ev_valid m l) (Ev.pos hv (Ev.neg (by omega) ?_))
        rw [decide_eq_false (show ¬ (u : Int) ≥ (m : Int) by omega)]
        exact h
      rcases solve_cases hs with ⟨r, hl, h1, h2⟩ | ⟨hno, h1, h2⟩
      · obtain ⟨st, q1, q2, q3, out, q4, q5, q6⟩ := search_both hs (which_upTo l) (by rw [upTo_length]; exact hs.len) hl.sol (Nat.le_of_lt hum)
        have hR : Ev (fun k => boundN k m l (u : Int)) (if kn st m = true then (wrap64 (-(sm st m)), true, 0) else (0, false, 0)) := by
          refine Ev.bind h1 (Ev.pos rfl (Ev.bind q1 ⟨0, fun k _ => ?_⟩))
          show boundOf m (.done st) = _
          unfold boundOf
          show (if kn st m = true then some (wrap64 (-(sm st m)), true, (0 : Int)) else some ((0 : Int), false, (0 : Int))) = _
          split <;> rfl
        refine ⟨_, hR.congr hg, href _ ?_⟩
        refine Ev.step (fun k => tenetref02_Bound.j0.eq_2 ..) (Ev.neg (by decide) (Ev.bind h2 (Ev.pos rfl (Ev.bind (ev_edges hs) (Ev.bind q4 (Ev.pos (by omega) (Ev.pos (show (m : Int) < (out.length : Int) by omega) ?_)))))))
        obtain ⟨e1, e2⟩ := rd94 out m
        obtain ⟨e3, e4⟩ := q6 m (Nat.le_refl m)
        rw [e1, e2, e3, e4]
        cases hk : kn st m with
        | true => exact Ev.pos rfl (Ev.now _)
        | false => exact Ev.neg (by decide) (Ev.now _)
      · have hR : Ev (fun k => boundN k m l (u : Int)) (0, false, 20) := Ev.bind h1 (Ev.neg (by decide) (Ev.now _))
        exact ⟨_, hR.congr hg, href _ (Ev.step (fun k => tenetref02_Bound.j0.eq_2 ..) (Ev.neg (by decide) (Ev.bind h2 (Ev.neg (by decide) (Ev.now _)))))⟩
theorem GraphBounds_pure (n : Int) (l : List S44) (v : Int) : ∃ k, tenetlaw02_GraphBounds.f k n l v = some true := by
  refine Ev.rounds (g := fun k => tenetlaw02_GraphBounds.f k n l v) ?_
  rcases ev_heavy n l 60 (by omega) with h | ⟨_, _, h⟩
  · exact Ev.bind h (Ev.pos rfl (Ev.bind ev_awake (Ev.now _)))
  · obtain ⟨r, h1, h2⟩ := bound_cases n l v
    exact Ev.bind h (Ev.neg (by decide) (Ev.bind h1 (Ev.bind h2 (Ev.pos rfl (Ev.pos (by simp) (Ev.pos rfl (Ev.bind ev_awake (Ev.now _))))))))
end Go.Proofs.Ytegejpcglabhbaa.G
