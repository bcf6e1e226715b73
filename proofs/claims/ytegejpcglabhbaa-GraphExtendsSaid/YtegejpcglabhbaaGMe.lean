/- Plain law: GraphExtends answers true. -/
import Derived.Test.YtegejpcglabhbaaGNx
import Derived.Test.YtegejpcglabhbaaGNb
import Derived.Test.YtegejpcglabhbaaGf15
namespace Go.Proofs.Ytegejpcglabhbaa.G
open Go.RowKit Go.Proofs.YtegejpcglabhbaaW.PrintWords Go.Proofs.YtegejpcglabhbaaW.PrintLast Go.Proofs.YtegejpcglabhbaaW.PrintMore
set_option linter.unusedVariables false
set_option linter.unusedSimpArgs false

theorem eqints_gen (a b : List Int) (hl : a.length ≤ 1000000) (e : a.length = b.length) : ∀ (d i k : Nat), d + i = a.length → d < k → tenetref00_EqInts.l0 k a b (i : Int) = some (decide (a.drop i = b.drop i)) := by
  intro d
  induction d with
  | zero =>
    intro i k hd hk
    obtain ⟨k, rfl⟩ : ∃ m, k = m + 1 := ⟨k - 1, by omega⟩
    simp only [tenetref00_EqInts.l0]
    rw [if_neg (by omega), List.drop_eq_nil_of_le (by omega), List.drop_eq_nil_of_le (by omega)]
    simp
  | succ d ih =>
    intro i k hd hk
    obtain ⟨k, rfl⟩ : ∃ m, k = m + 1 := ⟨k - 1, by omega⟩
    have h1 : i < a.length := by omega
    have h2 : i < b.length := by omega
    have e1 : rd a (i : Int) = a[i] := by simp [rd, List.getD_eq_getElem?_getD, List.getElem?_eq_getElem h1]
    have e2 : rd b (i : Int) = b[i] := by simp [rd, List.getD_eq_getElem?_getD, List.getElem?_eq_getElem h2]
    simp only [tenetref00_EqInts.l0, e1, e2]
    rw [if_pos (by omega), if_pos (by omega), if_pos (by omega), List.drop_eq_getElem_cons h1, List.drop_eq_getElem_cons h2]
    by_cases h : a[i] = b[i]
    · rw [if_pos h, w64n _ (by omega), ih (i + 1) k (by omega) (by omega)]
      generalize a.drop (i + 1) = x
      generalize b.drop (i + 1) = y
      simp [h]
    · rw [if_neg h]
      generalize a.drop (i + 1) = x
      generalize b.drop (i + 1) = y
      simp [h]
theorem ev_eq (a b : List Int) (hl : a.length ≤ 1000000) : Ev (fun k => tenetref00_EqInts.f k a b) (decide (a = b)) := by
  by_cases e : a.length = b.length
  · exact ⟨a.length + 1, fun k hk => by
      show tenetref00_EqInts.f k a b = _
      unfold tenetref00_EqInts.f
      rw [if_pos (by omega)]
      exact eqints_gen a b hl e a.length 0 k (by omega) (by omega)⟩
  · exact ⟨0, fun k _ => by
      show tenetref00_EqInts.f k a b = _
      unfold tenetref00_EqInts.f
      rw [if_neg (by omega), decide_eq_false (fun h => e (by rw [h]))]⟩
theorem extend_both (n : Int) (l1 : List S44) (sol : List Int) (l3 : List S44) : ∃ r : List Int × Int, r.1.length ≤ 1200 ∧ Ev (fun k => graph_Extend.f k n l1 sol l3) r ∧ Ev (fun k => tenetref02_Extend.f k n l1 sol l3) r := by
  have hg : ∀ k, graph_Extend.f k n l1 sol l3 = if validB n l1 = true then if validB n l3 = true then if 3000 < l1.length + l3.length then some ([], 4) else extS k n.toNat l1 sol l3 else some ([], 4) else some ([], 4) := fun _ => rfl
  have hj4 : Ev (fun k => tenetref02_Extend.j0 k n l1 sol l3 true) (([] : List Int), (4 : Int)) := Ev.step (fun k => tenetref02_Extend.j0.eq_2 ..) (Ev.pos rfl (Ev.now _))
  cases hv : validB n l1 with
  | false => exact ⟨([], 4), by simp, Ev.congr hg (Ev.neg (by rw [hv]; decide) (Ev.now _)), Ev.bind (ev_valid n l1) (Ev.neg (by rw [hv]; decide) hj4)⟩
  | true =>
    obtain ⟨m, rfl, hs⟩ := valid_ok hv
    cases hv3 : validB (m : Int) l3 with
    | false => exact ⟨([], 4), by simp, Ev.congr hg (Ev.pos hv (Ev.neg (by rw [hv3]; decide) (Ev.now _))), Ev.bind (ev_valid m l1) (Ev.pos hv (Ev.bind (ev_valid m l3) (Ev.neg (by rw [hv3]; decide) hj4)))⟩
    | true =>
      obtain ⟨m2, hm2, hs3⟩ := valid_ok hv3
      obtain rfl : m = m2 := by omega
      have hl1 := hs.len
      have hl3 := hs3.len
      have hw : wrap64 ((l1.length : Int) + (l3.length : Int)) = ((l1.length + l3.length : Nat) : Int) := by unfold wrap64; omega
      have hbeg : ∀ (q : Bool) r, Ev (fun k => tenetref02_Extend.j0 k (m : Int) l1 sol l3 (decide (wrap64 ((l1.length : Int) + (l3.length : Int)) > 3000))) r → Ev (fun k => tenetref02_Extend.f k (m : Int) l1 sol l3) r := fun _ r h => Ev.bind (ev_valid m l1) (Ev.pos hv (Ev.bind (ev_valid m l3) (Ev.pos hv3 h)))
      by_cases h30 : 3000 < l1.length + l3.length
      · refine ⟨([], 4), by simp, Ev.congr hg (Ev.pos hv (Ev.pos hv3 (Ev.pos h30 (Ev.now _)))), hbeg true _ ?_⟩
        rw [hw, decide_eq_true (by omega)]
        exact hj4
      · have hg2 : ∀ r, Ev (fun k => extS k m l1 sol l3) r → Ev (fun k => graph_Extend.f k (m : Int) l1 sol l3) r := fun r h => Ev.congr hg (Ev.pos hv (Ev.pos hv3 (Ev.neg h30 (by rw [Int.toNat_natCast]; exact h))))
        have hbeg2 : ∀ r, Ev (fun k => (tenetref02_solve.f k (m : Int) l1).bind fun bt636 => (if bt636.2 = true then ((tenetref00_EqInts.f k bt636.1 sol).bind fun t640 => (tenetref02_Extend.j1 k (m : Int) l1 l3 (!t640))) else (tenetref02_Extend.j1 k (m : Int) l1 l3 true))) r → Ev (fun k => tenetref02_Extend.f k (m : Int) l1 sol l3) r := fun r h => hbeg false r (by
          rw [hw, decide_eq_false (by omega)]
          exact Ev.step (fun k => tenetref02_Extend.j0.eq_2 ..) (Ev.neg (by decide) h))
        have hj1 : Ev (fun k => tenetref02_Extend.j1 k (m : Int) l1 l3 true) (([] : List Int), (1 : Int)) := Ev.step (fun k => tenetref02_Extend.j1.eq_2 ..) (Ev.pos rfl (Ev.now _))
        rcases solve_cases hs with ⟨r, hr, h1, h2⟩ | ⟨hno, h1, h2⟩
        · by_cases hq : r = sol
          · subst hq
            have hbeg3 : ∀ q, Ev (fun k => (tenetref02_solve.f k (m : Int) (l1 ++ l3)).bind fun bt647 => (if bt647.2 = true then (some (bt647.1, (0 : Int))) else (some (([] : List Int), 20)))) q → Ev (fun k => tenetref02_Extend.f k (m : Int) l1 r l3) q := fun q h => hbeg2 q (Ev.bind h2 (Ev.pos rfl (Ev.bind (ev_eq r r (by rw [hr.len]; have := hs.n1; omega)) (by
              rw [decide_eq_true rfl]
              refine Ev.step (fun k => tenetref02_Extend.j1.eq_2 ..) (Ev.neg (by decide) (Ev.pos (by simp; omega) (Ev.bind (Ev.now _) (Ev.pos (by simp; omega) ?_))))
              rw [List.nil_append]
              exact h))))
            have hsb := both_ok hs hs3 (by omega)
            rcases extS_ev hs hs3 (by omega) hr h1 with ⟨d, hd, h3⟩ | ⟨hno, h3⟩
            · rcases solve_cases hsb with ⟨d2, hd2, _, h4⟩ | ⟨hno2, _⟩
              · obtain rfl := hd.unique hd2 hd.sol hd2.sol
                exact ⟨(d, 0), by rw [hd.len]; exact hs.n1, hg2 _ h3, hbeg3 _ (Ev.bind h4 (Ev.pos rfl (Ev.now _)))⟩
              · exact (hno2 ⟨_, hd.sol⟩).elim
            · rcases solve_cases hsb with ⟨d2, hd2, _, h4⟩ | ⟨hno2, _, h4⟩
              · exact (hno ⟨_, hd2.sol⟩).elim
              · exact ⟨([], 20), by simp, hg2 _ h3, hbeg3 _ (Ev.bind h4 (Ev.neg (by decide) (Ev.now _)))⟩
          · refine ⟨([], 1), by simp, hg2 _ (Ev.bind h1 (Ev.pos rfl (Ev.neg hq (Ev.now _)))), hbeg2 _ (Ev.bind h2 (Ev.pos rfl (Ev.bind (ev_eq r sol (by rw [hr.len]; have := hs.n1; omega)) ?_)))⟩
            rw [decide_eq_false hq]
            exact hj1
        · exact ⟨([], 1), by simp, hg2 _ (Ev.bind h1 (Ev.neg (by decide) (Ev.now _))), hbeg2 _ (Ev.bind h2 (Ev.neg (by decide) hj1))⟩
theorem GraphExtends_pure (n : Int) (l1 : List S44) (sol : List Int) (l3 : List S44) : ∃ k, tenetlaw02_GraphExtends.f k n l1 sol l3 = some true := by
  refine Ev.rounds (g := fun k => tenetlaw02_GraphExtends.f k n l1 sol l3) ?_
  obtain ⟨r, hr, h1, h2⟩ := extend_both n l1 sol l3
  have hj : ∀ b, Ev (fun k => tenetlaw02_GraphExtends.j0 k n l1 b sol l3) true := fun b => by
    refine Ev.step (fun k => tenetlaw02_GraphExtends.j0.eq_2 ..) ?_
    cases b with
    | true => exact Ev.pos rfl (Ev.bind ev_awake (Ev.now _))
    | false =>
      have he := ev_eq r.1 r.1 (by omega)
      rw [decide_eq_true rfl] at he
      exact Ev.neg (by decide) (Ev.bind h1 (Ev.bind h2 (Ev.pos rfl (Ev.bind he (Ev.pos rfl (Ev.bind ev_awake (Ev.now _)))))))
  rcases ev_heavy n l1 120 (by omega) with h | ⟨_, _, h⟩
  · exact Ev.bind h (Ev.pos rfl (hj _))
  · refine Ev.bind h (Ev.neg (by decide) ?_)
    rcases ev_heavy n l3 120 (by omega) with h | ⟨_, _, h⟩
    · exact Ev.bind h (Ev.pos rfl (hj _))
    · exact Ev.bind h (Ev.neg (by decide) (hj _))
end Go.Proofs.Ytegejpcglabhbaa.G
