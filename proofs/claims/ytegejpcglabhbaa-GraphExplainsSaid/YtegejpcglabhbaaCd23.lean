/- A part of this claim's proof: texts of its author, and printed ones, packed by a program of its author's. -/
import Derived.Test.YtegejpcglabhbaaCd21
import Derived.Test.YtegejpcglabhbaaCd22
namespace Go.Proofs.Ytegejpcglabhbaa.G
open Go.RowKit Go.Proofs.YtegejpcglabhbaaW.PrintWords Go.Proofs.YtegejpcglabhbaaW.PrintLast Go.Proofs.YtegejpcglabhbaaW.PrintMore
set_option linter.unusedVariables false
set_option linter.unusedSimpArgs false
theorem rd44_get {l : List S44} {i : Nat} (h : i < l.length) : rd_T44 l (i : Int) = l[i] := by
 simp [rd_T44, List.getD_eq_getElem?_getD, List.getElem?_eq_getElem h]
theorem cut_snoc {P : List S44} {i : Nat} {x : S44} (h : P.length ≠ i) : (P ++ [x]).take i ++ (P ++ [x]).drop (i + 1) = P.take i ++ P.drop (i + 1) ++ [x] := by
 rcases Nat.lt_or_gt_of_ne h with h1 | h1
 ·rw [List.take_of_length_le (show (P ++ [x]).length ≤ i by rw [List.length_append, List.length_singleton]; omega), List.drop_eq_nil_of_le (show (P ++ [x]).length ≤ i + 1 by rw [List.length_append, List.length_singleton]; omega), List.take_of_length_le (show P.length ≤ i by omega), List.drop_eq_nil_of_le (show P.length ≤ i + 1 by omega), List.append_nil, List.append_nil]
 ·rw [List.take_append_of_le_length (by omega), List.drop_append_of_le_length (by omega), List.append_assoc]
theorem without_ev (l : List S44) (hl : l.length ≤ 1000000) (i : Nat) : Ev (fun k => tenetref02_without.f k l (i : Int)) (l.take i ++ l.drop (i + 1)) := by
 have key : ∀ d j, d + j = l.length → Ev (fun k => tenetref02_without.l0 k l (i : Int) ((l.take j).take i ++ (l.take j).drop (i + 1)) (j : Int)) (l.take i ++ l.drop (i + 1)) := by
  intro d
  induction d with
  | zero =>
   intro j hd
   refine Ev.step (fun k => tenetref02_without.l0.eq_2 ..) (Ev.neg (by omega) ?_)
   rw [List.take_of_length_le (show l.length ≤ j by omega)]
   exact Ev.now _
  | succ d ih =>
   intro j hd
   have hj : j < l.length := by omega
   have e := ih (j + 1) (by omega)
   rw [List.take_succ_eq_append_getElem hj] at e
   refine Ev.step (fun k => tenetref02_without.l0.eq_2 ..) (Ev.pos (by omega) ?_)
   rw [w64n _ (by omega)]
   have hlt : (l.take j).length = j := by rw [List.length_take]; omega
   by_cases h : j = i
   ·subst h
    refine Ev.pos (by omega) ?_
    rw [List.take_append_of_le_length (by omega), List.drop_eq_nil_of_le (by rw [List.length_append, hlt, List.length_singleton]; omega)] at e
    rw [List.drop_eq_nil_of_le (by omega)]
    exact e
   ·refine Ev.neg (by omega) (Ev.pos (by omega) (Ev.pos (by rw [List.length_append, List.length_take, List.length_drop]; omega) ?_))
    rw [rd44_get hj]
    rw [cut_snoc (show (l.take j).length ≠ i by omega)] at e
    exact e
 have := key l.length 0 (by omega)
 rw [List.take_zero, List.take_nil, List.drop_nil] at this
 exact this
theorem someOf_cut (l : List S44) (r : List Int) (j : Nat) : (someOf l r).take j ++ (someOf l r).drop (j + 1) = someOf l (cutL r j) := by
 unfold someOf cutL
 rw [List.map_append, List.map_take, List.map_drop]
theorem core_ev {n : Nat} {l : List S44} (hs : SysOk n l) {r : List Int} (hC : CoreOk n l r) (hn : ∀ j, j < r.length → ∃ val, Sol n (allArcs n l (cutL r j)) val) : Ev (fun k => tenetref02_Core.f k (n : Int) l r) true := by
 have hl := hs.len
 have hr := hC.len
 have hsl : (someOf l r).length = r.length := by unfold someOf; rw [List.length_map]
 have l1 : ∀ d j, d + j = r.length → Ev (fun k => tenetref02_Core.l1 k (n : Int) (someOf l r) (j : Int)) true := by
  intro d
  induction d with
  | zero => intro j hd; exact Ev.step (fun k => tenetref02_Core.l1.eq_2 ..) (Ev.neg (by omega) (Ev.now _))
  | succ d ih =>
   intro j hd
   have hw := cutL_which hC.which j
   have hcl := cutL_length (left := r) (i := j) (by omega)
   refine Ev.step (fun k => tenetref02_Core.l1.eq_2 ..) (Ev.pos (by omega) (Ev.bind (without_ev (someOf l r) (by omega) j) ?_))
   rw [someOf_cut, w64n _ (by omega)]
   obtain ⟨val, hv⟩ := hn j (by omega)
   obtain ⟨q, _, _, h2⟩ := solve_sol (some_ok hs hw (by omega)) (sol_some.2 hv)
   exact Ev.bind h2 (Ev.pos rfl (ih (j + 1) (by omega)))
 have l0 : ∀ d i, d + i = r.length → Ev (fun k => tenetref02_Core.l0 k (n : Int) l r (someOf l (r.take i)) (i : Int)) true := by
  intro d
  induction d with
  | zero =>
   intro i hd
   refine Ev.step (fun k => tenetref02_Core.l0.eq_2 ..) (Ev.neg (by omega) ?_)
   rw [List.take_of_length_le (by omega)]
   rcases solve_cases (some_ok hs hC.which (by omega)) with ⟨q, hq, _, _⟩ | ⟨_, _, h2⟩
   ·exact (hC.no ⟨_, sol_some.1 hq.sol⟩).elim
   ·exact Ev.bind h2 (Ev.neg (by decide) (l1 r.length 0 (by omega)))
  | succ d ih =>
   intro i hd
   have hi : i < r.length := by omega
   have hx := hC.which _ (List.getElem_mem hi)
   have e : rd r (i : Int) = r[i] := by simp [rd, List.getD_eq_getElem?_getD, List.getElem?_eq_getElem hi]
   have hnext := ih (i + 1) (by omega)
   rw [List.take_succ_eq_append_getElem hi] at hnext
   have e2 : someOf l (r.take i ++ [r[i]]) = someOf l (r.take i) ++ [rd_T44 l r[i]] := by unfold someOf; rw [List.map_append]; rfl
   rw [e2] at hnext
   have hlen : (someOf l (r.take i)).length < 2199023255552 := by unfold someOf; rw [List.length_map, List.length_take]; omega
   refine Ev.step (fun k => tenetref02_Core.l0.eq_2 ..) (Ev.pos (by omega) (Ev.pos (by omega) ?_))
   rw [e, w64n _ (by omega)]
   refine Ev.neg (by omega) (Ev.neg (by omega) (Ev.both (fun a => ?_) (fun a => Ev.pos hx.1 (Ev.pos hx.2 (Ev.pos hlen hnext)))))
   have e3 : wrap64 ((i : Int) - 1) = ((i - 1 : Nat) : Int) := by unfold wrap64; omega
   have e4 : rd r ((i - 1 : Nat) : Int) = r[i - 1] := by simp [rd, List.getD_eq_getElem?_getD, List.getElem?_eq_getElem (show i - 1 < r.length by omega)]
   have hlt := List.pairwise_iff_getElem.1 hC.asc (i - 1) i (by omega) hi (by omega)
   rw [e3, e4]
   exact Ev.pos (by omega) (Ev.pos (by omega) (Ev.neg (by omega) (Ev.pos hx.1 (Ev.pos hx.2 (Ev.pos hlen hnext)))))
 have := l0 r.length 0 (by omega)
 exact this
theorem GraphExplains_pure (n : Int) (l : List S44) : ∃ k, tenetlaw02_GraphExplains.f k n l = some true := by
 refine Ev.rounds (g := fun k => tenetlaw02_GraphExplains.f k n l) ?_
 rcases ev_heavy n l 60 (by omega) with h | ⟨_, _, h⟩
 ·exact Ev.bind h (Ev.pos rfl (Ev.bind ev_awake (Ev.now _)))
 refine Ev.bind h (Ev.neg (by decide) ?_)
 cases hv : validB n l with
 | false =>
  have e1 : Ev (fun k => graph_Explain.f k n l) ([], false, 4) := ⟨0, fun k _ => by
   show graph_Explain.f k n l = _
   unfold graph_Explain.f
   rw [hv, if_neg (by decide)]⟩
  exact Ev.bind e1 (Ev.bind (ev_valid n l) (Ev.neg (by rw [hv]; decide) (Ev.pos rfl (Ev.pos rfl (Ev.neg (by decide) (Ev.bind ev_awake (Ev.now _)))))))
 | true =>
  obtain ⟨m, rfl, hs⟩ := valid_ok hv
  have e1 : ∀ k, graph_Explain.f k (m : Int) l = explainN k m l := fun k => by
   unfold graph_Explain.f
   rw [if_pos hv, Int.toNat_natCast]
  rcases explain_ev hs with ⟨⟨val, hval⟩, h1⟩ | ⟨hno, r, h1, hC, hn⟩
  ·obtain ⟨q, _, _, h2⟩ := solve_sol hs hval
   refine Ev.bind (Ev.congr e1 h1) (Ev.bind (ev_valid _ l) (Ev.pos hv (Ev.bind (RSolve_ev hv h2) (Ev.pos rfl ?_))))
   exact Ev.step (fun k => tenetlaw02_GraphExplains.j0.eq_2 ..) (Ev.neg (show ¬ ((false != ((0 : Int) == 20)) = true) by decide) (Ev.neg (by decide) (Ev.pos rfl (Ev.bind ev_awake (Ev.now _)))))
  ·rcases solve_cases hs with ⟨q, hq, _, _⟩ | ⟨_, _, h2⟩
   ·exact (hno ⟨_, hq.sol⟩).elim
   ·refine Ev.bind (Ev.congr e1 h1) (Ev.bind (ev_valid _ l) (Ev.pos hv (Ev.bind (RSolve_ev hv h2) (Ev.pos rfl ?_))))
    exact Ev.step (fun k => tenetlaw02_GraphExplains.j0.eq_2 ..) (Ev.neg (show ¬ ((true != ((20 : Int) == 20)) = true) by decide) (Ev.pos rfl (Ev.bind (core_ev hs hC hn) (Ev.pos rfl (Ev.bind ev_awake (Ev.now _))))))
end Go.Proofs.Ytegejpcglabhbaa.G
