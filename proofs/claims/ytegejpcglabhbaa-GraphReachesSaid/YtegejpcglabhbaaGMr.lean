/- Plain law: a bound is reached by a solution, and none passes it. -/
import Derived.Test.YtegejpcglabhbaaGNc
import Derived.Test.YtegejpcglabhbaaGHb
namespace Go.Proofs.Ytegejpcglabhbaa.G
open Go.RowKit Go.Proofs.YtegejpcglabhbaaW.PrintWords Go.Proofs.YtegejpcglabhbaaW.PrintLast Go.Proofs.YtegejpcglabhbaaW.PrintMore
set_option linter.unusedVariables false
set_option linter.unusedSimpArgs false

theorem valid_of {n : Nat} {l : List S44} (hn : n ≤ 1200) (hl : l.length ≤ 3000) (h : ∀ c ∈ l, fitsB (n : Int) c = true) : validB (n : Int) l = true := by
  unfold validB
  rw [decide_eq_true (by omega), decide_eq_true (by omega), decide_eq_true hl, Bool.true_and, Bool.true_and, Bool.true_and, List.all_eq_true]
  exact h
theorem valid_fits {n : Int} {l : List S44} (h : validB n l = true) : ∀ c ∈ l, fitsB n c = true := by
  simp only [validB, Bool.and_eq_true, decide_eq_true_eq, List.all_eq_true] at h
  exact h.2.2.2
/-- A number that a variable has at least. -/
def cW (w u : Int) : S44 := ⟨⟨w, []⟩, ⟨0, [⟨u, 0⟩]⟩⟩
theorem lvl_none {w : Int} (h0 : 0 ≤ w) (h1 : w ≤ 1000) : lvl w [] = true := by
  unfold lvl
  rw [if_neg (by omega), if_neg (by omega), if_neg (by simp)]
  rfl
theorem fits_cW {n w u : Int} (h0 : 0 ≤ w) (h1 : w ≤ 1000) (k0 : 0 ≤ u) (k1 : u < 1200) (hu : u < n) : fitsB n (cW w u) = true := by
  unfold fitsB cW
  rw [lvl_none h0 h1, lvl_one k0 k1 (Int.le_refl 0) (by omega)]
  simp [belowB, hu]
theorem suits_cW {n : Nat} {val : Nat → Int} {w u : Int} : Suits val (arcsOf (n : Int) 0 (cW w u)) ↔ val n + w ≤ val u.toNat := by
  have hm : arcsOf (n : Int) 0 (cW w u) = [⟨n, u, w - 0, 0⟩] := rfl
  rw [hm]
  unfold Suits
  simp
theorem more_sol {n : Nat} {l : List S44} {w u : Int} {val : Nat → Int} : Sol n (sysArcs n (l ++ [cW w u])) val ↔ Sol n (sysArcs n l) val ∧ w ≤ val u.toNat := by
  rw [sol_sys, sol_sys]
  constructor
  · rintro ⟨h0, h1, h2⟩
    refine ⟨⟨h0, h1, fun c hc => h2 c (List.mem_append_left _ hc)⟩, ?_⟩
    have := suits_cW.1 (h2 (cW w u) (List.mem_append_right _ (List.mem_singleton.2 rfl)))
    omega
  · rintro ⟨⟨h0, h1, h2⟩, h3⟩
    refine ⟨h0, h1, fun c hc => ?_⟩
    rcases List.mem_append.1 hc with hc | hc
    · exact h2 c hc
    · rw [List.mem_singleton.1 hc]
      exact suits_cW.2 (by omega)
theorem reaches_facts (n : Int) (l : List S44) (v : Int) (hl : l.length ≤ 60) : (∃ a ok e, e ≠ 0 ∧ Ev (fun k => graph_Bound.f k n l v) (a, ok, e)) ∨
    ∃ (m u : Nat) (a : Int) (ok : Bool), n = m ∧ v = u ∧ u < m ∧ m ≤ 1200 ∧ 0 ≤ a ∧ Ev (fun k => graph_Bound.f k n l v) (a, ok, 0) ∧
      (∀ w : Int, 0 ≤ w → w ≤ 1000 → (ok = true → w = a) → ∃ s : List Int, s.length = m ∧ w ≤ s.getD u 0 ∧ Ev (fun k => graph_Solve.f k n (l ++ [cW w v])) (s, 0)) ∧
      (ok = true → a + 1 ≤ 1000 → Ev (fun k => graph_Solve.f k n (l ++ [cW (a + 1) v])) ([], 20)) := by
  cases hv : validB n l with
  | false => exact .inl ⟨0, false, 4, by decide, 0, fun k _ => by show graph_Bound.f k n l v = _; unfold graph_Bound.f; rw [hv, if_neg (by decide)]⟩
  | true =>
    obtain ⟨m, rfl, hs⟩ := valid_ok hv
    by_cases hr : v < 0 ∨ (m : Int) ≤ v
    · exact .inl ⟨0, false, 1, by decide, 0, fun k _ => by show graph_Bound.f k m l v = _; unfold graph_Bound.f; rw [if_pos hv, if_pos hr]⟩
    · obtain ⟨u, rfl⟩ := Int.eq_ofNat_of_zero_le (show 0 ≤ v by omega)
      have hum : u < m := by omega
      have hn := hs.n1
      have hg : ∀ k, graph_Bound.f k (m : Int) l (u : Int) = boundN k m l (u : Int) := fun k => by
        unfold graph_Bound.f
        rw [if_pos hv, if_neg hr, Int.toNat_natCast]
      rcases prog_cases hs with ⟨r, hle, h1⟩ | ⟨hno, h1⟩
      · have hE := sys_arcs hs (which_upTo l)
        obtain ⟨R, q1, hP⟩ := search_spec hs (which_upTo l) (s := u) (by omega)
        obtain ⟨st, rfl⟩ := far_sol hP hle.sol
        obtain ⟨q2, _, _, q3⟩ := far_done hP hn hE (by omega)
        have hvalid : ∀ w : Int, 0 ≤ w → w ≤ 1000 → validB (m : Int) (l ++ [cW w (u : Int)]) = true := fun w h0 h2 => valid_of hn (by simp; omega) fun c hc => by
          rcases List.mem_append.1 hc with hc | hc
          · exact valid_fits hv c hc
          · rw [List.mem_singleton.1 hc]
            exact fits_cW h0 h2 (by omega) (by omega) (by omega)
        have hsys : ∀ w : Int, 0 ≤ w → w ≤ 1000 → SysOk m (l ++ [cW w (u : Int)]) := fun w h0 h2 => by
          obtain ⟨m2, e, h⟩ := valid_ok (hvalid w h0 h2)
          obtain rfl : m = m2 := by omega
          exact h
        have hsolve : ∀ w : Int, 0 ≤ w → w ≤ 1000 → (kn st m = true → w + sm st m ≤ 0) → ∃ s : List Int, s.length = m ∧ w ≤ s.getD u 0 ∧ Ev (fun k => graph_Solve.f k (m : Int) (l ++ [cW w (u : Int)])) (s, 0) := fun w h0 h2 h3 => by
          have hsol := raised_sol q2.closed hle.sol w h3
          have h4 : Sol m (sysArcs m (l ++ [cW w (u : Int)])) (fun x => if kn st x = true then max (r.getD x 0) (w + sm st x) else r.getD x 0) := more_sol.2 ⟨hsol, by
            rw [Int.toNat_natCast]
            show w ≤ if kn st u = true then max (r.getD u 0) (w + sm st u) else r.getD u 0
            rw [if_pos q2.closed.start, q2.zero]
            omega⟩
          obtain ⟨s, hsl, h5⟩ := prog_sol (hsys w h0 h2) h4
          have h6 := (more_sol.1 hsl.sol).2
          rw [Int.toNat_natCast] at h6
          exact ⟨s, hsl.len, h6, Solve_ev (hvalid w h0 h2) h5⟩
        cases hk : kn st m with
        | true =>
          have hw := hle.sol.walk (q2.walk m (Nat.le_refl m) hk)
          have hz := hle.sol.zero
          have h0u := hle.low u
          have hw2 : r.getD u 0 + sm st m ≤ r.getD m 0 := hw
          have hz2 : r.getD m 0 = 0 := hz
          have hb := q3 m (Nat.le_refl m) hk
          have hwr : wrap64 (-(sm st m)) = -(sm st m) := by unfold wrap64; omega
          refine .inr ⟨m, u, -(sm st m), true, rfl, rfl, hum, hn, by omega, Ev.congr hg (Ev.bind h1 (Ev.pos rfl (Ev.bind q1 ⟨0, fun k _ => ?_⟩))), fun w h0 h2 h3 => hsolve w h0 h2 (fun _ => by rw [h3 rfl]; omega), fun _ h2 => ?_⟩
          · show (if kn st m = true then some (wrap64 (-(sm st m)), true, (0 : Int)) else some ((0 : Int), false, (0 : Int))) = _
            rw [if_pos hk, hwr]
          · rcases prog_cases (hsys (-(sm st m) + 1) (by omega) h2) with ⟨s, hsl, _⟩ | ⟨_, h5⟩
            · exfalso
              obtain ⟨h6, h7⟩ := more_sol.1 hsl.sol
              rw [Int.toNat_natCast] at h7
              have h8 := h6.walk (q2.walk m (Nat.le_refl m) hk)
              have h9 := h6.zero
              omega
            · exact Solve_ev (hvalid (-(sm st m) + 1) (by omega) h2) h5
        | false =>
          refine .inr ⟨m, u, 0, false, rfl, rfl, hum, hn, Int.le_refl _, Ev.congr hg (Ev.bind h1 (Ev.pos rfl (Ev.bind q1 ⟨0, fun k _ => ?_⟩))), fun w h0 h2 _ => hsolve w h0 h2 (fun h => by rw [hk] at h; cases h), fun h => by cases h⟩
          show (if kn st m = true then some (wrap64 (-(sm st m)), true, (0 : Int)) else some ((0 : Int), false, (0 : Int))) = _
          rw [if_neg (by rw [hk]; decide)]
      · exact .inl ⟨0, false, 20, by decide, Ev.congr hg (Ev.bind h1 (Ev.neg (by decide) (Ev.now _)))⟩
end Go.Proofs.Ytegejpcglabhbaa.G
