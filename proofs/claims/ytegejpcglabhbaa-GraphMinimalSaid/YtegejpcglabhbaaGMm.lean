/- Plain law: GraphMinimal answers true. -/
import Derived.Test.YtegejpcglabhbaaGNe
import Derived.Test.YtegejpcglabhbaaGHm
import Derived.Test.YtegejpcglabhbaaGf11
namespace Go.Proofs.Ytegejpcglabhbaa.G
open Go.RowKit Go.Proofs.YtegejpcglabhbaaW.PrintWords Go.Proofs.YtegejpcglabhbaaW.PrintLast Go.Proofs.YtegejpcglabhbaaW.PrintMore
set_option linter.unusedVariables false
set_option linter.unusedSimpArgs false

theorem leftB_all {l : List Int} {x : Int} {y : Int} (h : y ∈ leftB (fun z => z == x) l) : y ∈ l ∧ y ≠ x := by
  have := List.mem_filter.1 h
  exact ⟨this.1, by simpa using this.2⟩
theorem some_snoc (l : List S44) (w : List Int) (x : Int) : someOf l (w ++ [x]) = someOf l w ++ [rd_T44 l x] := by simp [someOf]
/-- The round that takes a constraint out of what is left. -/
theorem rmin_l2 {n : Nat} {l : List S44} (hs : SysOk n l) {left : List Int} (hw : Which l left) (hl : left.length ≤ 200) (i : Int) {r : List Int × Int}
    (hc : Ev (fun k => if 0 ≤ i then if i < (l.length : Int) then (tenetref02_follows.f k (n : Int) (someOf l (leftB (fun x => x == i) left)) (rd_T44 l i).f0.f0 (rd_T44 l i).f0.f1 (rd_T44 l i).f1.f0 (rd_T44 l i).f1.f1).bind fun t =>
      if t = true then tenetref02_Minimal.l1 k (n : Int) l (leftB (fun x => x == i) left) (wrap64 (i - 1)) else tenetref02_Minimal.l1 k (n : Int) l left (wrap64 (i - 1)) else none else none) r) :
    ∀ (d j : Nat), d + j = left.length → Ev (fun k => tenetref02_Minimal.l2 k (n : Int) l left i (leftB (fun x => x == i) (left.take j)) (someOf l (leftB (fun x => x == i) (left.take j))) (j : Int)) r := by
  intro d
  induction d with
  | zero =>
    intro j hd
    refine Ev.step (fun k => tenetref02_Minimal.l2.eq_2 ..) (Ev.neg (by omega) ?_)
    rw [List.take_of_length_le (by omega)]
    exact hc
  | succ d ih =>
    intro j hd
    have hj : j < left.length := by omega
    have e : rd left (j : Int) = left[j] := by simp [rd, List.getD_eq_getElem?_getD, List.getElem?_eq_getElem hj]
    have hlen : (leftB (fun x => x == i) (left.take j)).length ≤ 200 := by
      have := leftB_length (fun x => x == i) (left.take j)
      rw [List.length_take] at this
      omega
    have hx := hw _ (List.getElem_mem hj)
    have hnext := ih (j + 1) (by omega)
    rw [leftB_snoc hj] at hnext
    refine Ev.step (fun k => tenetref02_Minimal.l2.eq_2 ..) (Ev.pos (by omega) (Ev.pos (by omega) ?_))
    rw [e, w64n _ (by omega)]
    by_cases hq : left[j] = i
    · rw [if_pos (by simpa using hq)] at hnext
      exact Ev.pos hq hnext
    · rw [if_neg (by simpa using hq), some_snoc] at hnext
      exact Ev.neg hq (Ev.pos (by omega) (Ev.pos hx.1 (Ev.pos hx.2 (Ev.pos (by unfold someOf; rw [List.length_map]; omega) hnext))))
theorem rmin_l1 {n : Nat} {l : List S44} (hs : SysOk n l) {r : List Int} (hr : Least n (sysArcs n l) r) : ∀ (i : Nat) (left : List Int), i ≤ l.length → l.length ≤ 200 → Which l left → left.length ≤ 200 →
    ∃ q : List Int, q.length ≤ left.length ∧ Ev (fun k => minL k n l i left) q ∧ Ev (fun k => tenetref02_Minimal.l1 k (n : Int) l left ((i : Int) - 1)) (q, 0) := by
  intro i
  induction i with
  | zero =>
    intro left _ _ _ _
    exact ⟨left, Nat.le_refl _, Ev.now _, Ev.step (fun k => tenetref02_Minimal.l1.eq_2 ..) (Ev.neg (by omega) (Ev.now _))⟩
  | succ i ih =>
    intro left hi h200 hw hl
    have hwr : Which l (leftB (fun x => x == (i : Int)) left) := fun x hx => hw x (leftB_all hx).1
    have hlr := leftB_length (fun x => x == (i : Int)) left
    have hcc : FitOk n (rd_T44 l (i : Int)) := hs.fit _ (mem_rd44 (by omega) (by omega))
    have hsub : Sol n (allArcs n l (leftB (fun x => x == (i : Int)) left)) (fun v => r.getD v 0) := sol_less hr.sol fun x hx => by
      have := hwr x hx
      exact List.mem_map.2 ⟨x.toNat, List.mem_range.2 (by omega), by omega⟩
    obtain ⟨r2, hr2⟩ := least_sub hs hwr hsub
    obtain ⟨b, h1, h2⟩ := follows_ev hs hwr hr2 hcc
    obtain ⟨b2, h3, h4⟩ := rfollows_ev (some_ok hs hwr (by omega)) hcc
    have e : b2 = b := by
      have h5 : b2 = true ↔ b = true := by
        rw [h4, h2]
        unfold Entails
        simp only [sol_some]
      cases b <;> cases b2 <;> simp_all
    subst e
    have hw64 : wrap64 ((i : Int) - 1) = (i : Int) - 1 := by unfold wrap64; omega
    obtain ⟨q, hq, h5, h6⟩ := ih (if b2 = true then leftB (fun x => x == (i : Int)) left else left) (by omega) h200 (by split <;> assumption) (by split <;> omega)
    refine ⟨q, by split at hq <;> omega, Ev.bind h1 h5, ?_⟩
    refine Ev.step (fun k => tenetref02_Minimal.l1.eq_2 ..) (Ev.pos (by omega) ?_)
    rw [show ((i + 1 : Nat) : Int) - 1 = (i : Int) by omega]
    have := rmin_l2 hs hw hl (i : Int) (r := (q, 0)) (Ev.pos (by omega) (Ev.pos (by omega) (Ev.bind h3 (by
      rw [hw64]
      cases b2 with
      | true => exact Ev.pos rfl h6
      | false => exact Ev.neg (by decide) h6)))) left.length 0 (by omega)
    exact this
theorem rmin_l0 (n : Int) (l : List S44) (hl : l.length ≤ 200) {r : List Int × Int} (hc : Ev (fun k => tenetref02_Minimal.l1 k n l (upTo l.length) ((l.length : Int) - 1)) r) : ∀ (d i : Nat), d + i = l.length → Ev (fun k => tenetref02_Minimal.l0 k n l (upTo i) (i : Int)) r := by
  intro d
  induction d with
  | zero =>
    intro i hd
    refine Ev.step (fun k => tenetref02_Minimal.l0.eq_2 ..) (Ev.neg (by omega) ?_)
    rw [show wrap64 ((l.length : Int) - 1) = (l.length : Int) - 1 by unfold wrap64; omega, show i = l.length by omega]
    exact hc
  | succ d ih =>
    intro i hd
    refine Ev.step (fun k => tenetref02_Minimal.l0.eq_2 ..) (Ev.pos (by omega) (Ev.pos (by rw [upTo_length]; omega) ?_))
    have := ih (i + 1) (by omega)
    rw [w64n _ (by omega), show upTo i ++ [(i : Int)] = upTo (i + 1) by simp [upTo, List.range_succ]]
    exact this
theorem minimal_both (n : Int) (l : List S44) : ∃ r : List Int × Int, r.1.length ≤ 200 ∧ Ev (fun k => graph_Minimal.f k n l) r ∧ Ev (fun k => tenetref02_Minimal.f k n l) r := by
  have hg : ∀ k, graph_Minimal.f k n l = if validB n l = true then if 200 < l.length then some ([], 2) else minS k n.toNat l else some ([], 4) := fun _ => rfl
  cases hv : validB n l with
  | false => exact ⟨([], 4), by simp, Ev.congr hg (Ev.neg (by rw [hv]; decide) (Ev.now _)), Ev.bind (ev_valid n l) (Ev.neg (by rw [hv]; decide) (Ev.now _))⟩
  | true =>
    obtain ⟨m, rfl, hs⟩ := valid_ok hv
    by_cases h200 : 200 < l.length
    · exact ⟨([], 2), by simp, Ev.congr hg (Ev.pos hv (Ev.pos h200 (Ev.now _))), Ev.bind (ev_valid m l) (Ev.pos hv (Ev.pos (by omega) (Ev.now _)))⟩
    · have hg2 : ∀ r, Ev (fun k => minS k m l) r → Ev (fun k => graph_Minimal.f k (m : Int) l) r := fun r h => Ev.congr hg (Ev.pos hv (Ev.neg h200 (by rw [Int.toNat_natCast]; exact h)))
      rcases solve_cases hs with ⟨r, hr, h1, h2⟩ | ⟨hno, h1, h2⟩
      · obtain ⟨q, hq, ⟨K, hK⟩, h4⟩ := rmin_l1 hs hr l.length (upTo l.length) (Nat.le_refl _) (by omega) (which_upTo l) (by rw [upTo_length]; omega)
        rw [upTo_length] at hq
        exact ⟨(q, 0), by show q.length ≤ 200; omega, hg2 _ (Ev.bind h1 (Ev.pos rfl ⟨K, fun k hk => by
          show (minL k m l l.length (upTo l.length)).map (fun r => (r, (0 : Int))) = _
          rw [show minL k m l l.length (upTo l.length) = some q from hK k hk]
          rfl⟩)), Ev.bind (ev_valid m l) (Ev.pos hv (Ev.neg (by omega) (Ev.bind h2 (Ev.pos rfl (rmin_l0 (m : Int) l (by omega) h4 l.length 0 (by omega))))))⟩
      · exact ⟨([], 20), by simp, hg2 _ (Ev.bind h1 (Ev.neg (by decide) (Ev.now _))), Ev.bind (ev_valid m l) (Ev.pos hv (Ev.neg (by omega) (Ev.bind h2 (Ev.neg (by decide) (Ev.now _)))))⟩
theorem ev_eqints (l : List Int) (h : l.length ≤ 1000000) : Ev (fun k => tenetref00_EqInts.f k l l) true := ⟨l.length + 1, fun k hk => eqints_eq l h k hk⟩
theorem GraphMinimal_pure (n : Int) (l : List S44) : ∃ k, tenetlaw02_GraphMinimal.f k n l = some true := by
  refine Ev.rounds (g := fun k => tenetlaw02_GraphMinimal.f k n l) ?_
  obtain ⟨r, hr, h1, h2⟩ := minimal_both n l
  have hj : ∀ b, Ev (fun k => tenetlaw02_GraphMinimal.j0 k n l b) true := fun b => by
    refine Ev.step (fun k => tenetlaw02_GraphMinimal.j0.eq_2 ..) ?_
    cases b with
    | true => exact Ev.pos rfl (Ev.bind ev_awake (Ev.now _))
    | false => exact Ev.neg (by decide) (Ev.bind h1 (Ev.bind h2 (Ev.pos rfl (Ev.bind (ev_eqints r.1 (by omega)) (Ev.pos rfl (Ev.bind ev_awake (Ev.now _)))))))
  rcases ev_heavy n l 40 (by omega) with h | ⟨_, _, h⟩
  · refine Ev.bind h (Ev.pos rfl ?_)
    rcases ev_heavy n l 400 (by omega) with h | ⟨_, _, h⟩
    · exact Ev.bind h (Ev.pos rfl (hj _))
    · exact Ev.bind h (Ev.neg (by decide) (Ev.both (fun _ => hj _) (fun _ => hj _)))
  · exact Ev.bind h (Ev.neg (by decide) (hj _))
end Go.Proofs.Ytegejpcglabhbaa.G
