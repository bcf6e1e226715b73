/- A part of this claim's proof: texts of its author, and printed ones, packed by a program of its author's. -/
import Derived.Test.YtegejpcglabhbaaCe25
import Derived.Test.YtegejpcglabhbaaCe26
namespace Go.Proofs.Ytegejpcglabhbaa.G
open Go.RowKit Go.Proofs.YtegejpcglabhbaaW.PrintWords Go.Proofs.YtegejpcglabhbaaW.PrintLast Go.Proofs.YtegejpcglabhbaaW.PrintMore
set_option linter.unusedVariables false
set_option linter.unusedSimpArgs false
theorem ev_edges {n : Nat} {l : List S44} (hs : SysOk n l) : Ev (fun k => tenetref02_edges.f k (n : Int) l) ((sysArcs n l).map toE) := ⟨5000, fun k hk => edges_eq n l hs k hk⟩
theorem rd108 (L : List S105) (i : Nat) (h : i < L.length) : rd_T108 (L.map toE) (i : Int) = toE L[i] := by
 simp [rd_T108, List.getD_eq_getElem?_getD, List.getElem?_eq_getElem h]
section
def toB (a : S105) : S108 := ⟨a.f1, a.f0, -a.f2⟩
section
variable {n : Nat} {E : List S105} {vals : List Int}
theorem EOk.of (h : TOk n E vals) : EOk n (E.map toE) vals := ⟨by rw [List.length_map]; have := h.len; omega, h.n1, h.vlen, h.vals, fun e he => by
 obtain ⟨a, ha, rfl⟩ := List.mem_map.1 he
 have := h.arcs a ha
 simp only [toE]
 omega⟩
theorem EOk.back (h : TOk n E vals) : EOk n (E.map toB) vals := ⟨by rw [List.length_map]; have := h.len; omega, h.n1, h.vlen, h.vals, fun e he => by
 obtain ⟨a, ha, rfl⟩ := List.mem_map.1 he
 have := h.arcs a ha
 simp only [toB]
 omega⟩
theorem edge_iff (x y : Nat) : edgeR (E.map toE) vals x y ↔ tightP E vals x y := by
 constructor
 ·rintro ⟨e, he, h1, h2, h3⟩
  obtain ⟨a, ha, rfl⟩ := List.mem_map.1 he
  refine ⟨a, ha, h1, h2, ?_⟩
  have h4 : vals.getD a.f0.toNat 0 + a.f2 = vals.getD a.f1.toNat 0 := h3
  have e1 : a.f0 = x := h1
  have e2 : a.f1 = y := h2
  rwa [e1, e2, Int.toNat_natCast, Int.toNat_natCast] at h4
 ·rintro ⟨a, ha, h1, h2, h3⟩
  refine ⟨toE a, List.mem_map.2 ⟨a, ha, rfl⟩, h1, h2, ?_⟩
  show vals.getD a.f0.toNat 0 + a.f2 = vals.getD a.f1.toNat 0
  rwa [h1, h2, Int.toNat_natCast, Int.toNat_natCast]
theorem back_iff (x y : Nat) : edgeR (E.map toB) vals x y ↔ tightP E vals y x := by
 constructor
 ·rintro ⟨e, he, h1, h2, h3⟩
  obtain ⟨a, ha, rfl⟩ := List.mem_map.1 he
  refine ⟨a, ha, h2, h1, ?_⟩
  have h4 : vals.getD a.f1.toNat 0 + -a.f2 = vals.getD a.f0.toNat 0 := h3
  have e1 : a.f1 = x := h1
  have e2 : a.f0 = y := h2
  rw [e1, e2, Int.toNat_natCast, Int.toNat_natCast] at h4
  omega
 ·rintro ⟨a, ha, h1, h2, h3⟩
  refine ⟨toB a, List.mem_map.2 ⟨a, ha, rfl⟩, h2, h1, ?_⟩
  show vals.getD a.f1.toNat 0 + -a.f2 = vals.getD a.f0.toNat 0
  rw [h1, h2, Int.toNat_natCast, Int.toNat_natCast]
  omega
theorem rcls_l1 (h : TOk n E vals) : ∀ (d v : Nat) (done : List Bool) (out : List (List Int)), d + v = n → SeenOk (same E vals) n v done → out.length ≤ v →
  Ev (fun k => tenetref02_Classes.l1 k (n : Int) vals (E.map toE) (E.map toB) done out (v : Int)) (clsR (same E vals) n d v done out, 0)
 | 0, v, done, out, hd, hs, ho => Ev.step (fun k => tenetref02_Classes.l1.eq_2 ..) (Ev.neg (by omega) (Ev.now _))
 | d + 1, v, done, out, hd, hs, ho => by
  have hn := h.n1
  have hl := hs.len
  have hvn : v < n := by omega
  refine Ev.step (fun k => tenetref02_Classes.l1.eq_2 ..) (Ev.pos (by omega) (Ev.pos (by omega) (Ev.pos (by omega) ?_)))
  rw [rdOf_nat]
  simp only [clsR]
  by_cases hq : done.getD v false = true
  ·rw [if_pos hq]
   refine Ev.pos hq ?_
   rw [w64n _ (by omega)]
   exact rcls_l1 h d (v + 1) done out (by omega) (seen_old (same_equiv E vals) hs hvn hq) (by omega)
  ·rw [if_neg hq]
   refine Ev.neg hq ?_
   obtain ⟨tw, h1, h2, h3⟩ := rreached_ev (EOk.of h) (s := v) (by omega)
   obtain ⟨fr, k1, k2, k3⟩ := rreached_ev (EOk.back h) (s := v) (by omega)
   refine Ev.bind h1 (Ev.bind k1 ?_)
   have hR : ∀ w, w < n → (same E vals v w = true ↔ (seenAt tw w ∧ seenAt fr w ∧ vals.getD w 0 = vals.getD v 0)) := fun w _ => by
    have e1 : seenAt tw w ↔ Lead (tightP E vals) v w := (h3 w).trans ⟨fun q => q.mono fun x y => (edge_iff x y).1, fun q => q.mono fun x y => (edge_iff x y).2⟩
    have e2 : seenAt fr w ↔ Lead (tightP E vals) w v := (k3 w).trans ⟨fun q => q.flip fun x y => (back_iff x y).1, fun q => q.flip fun x y => (back_iff y x).2⟩
    rw [same_iff, e1, e2]
   have hsl := setR_length (same E vals) v (n - v) v [] done
   have hmore : (moreSets out (setR (same E vals) v (n - v) v [] done).1).length ≤ v + 1 := by
    unfold moreSets
    split
    ·rw [List.length_append, List.length_singleton]; omega
    ·omega
   refine rcls_l2 hn h.vlen hvn h2 k2 hR (E.map toE) (E.map toB) out (by omega) (n - v) v [] done (by omega) (Nat.zero_le _) hl (fun x hx1 hx2 hx3 => seen_free (same_equiv E vals) hs hvn hq hx2 hx3) ?_
   exact rcls_l1 h d (v + 1) _ _ (by omega) (seen_new (same_equiv E vals) hs hvn) hmore
theorem seen_start (R : Nat → Nat → Bool) : SeenOk R n 0 (List.replicate n false) := ⟨List.length_replicate, fun w hw => ⟨fun hz => (by
 unfold seenAt at hz
 rw [List.getD_eq_getElem?_getD, List.getElem?_replicate] at hz
 split at hz <;> cases hz), fun ⟨j, hj, _⟩ => (by omega)⟩⟩
theorem rcls_l0 (h : TOk n E vals) {r : List (List Int) × Int} (hr : Ev (fun k => tenetref02_Classes.l1 k (n : Int) vals (E.map toE) (E.map toB) (List.replicate n false) [] 0) r) : ∀ (d i : Nat), d + i = E.length →
  Ev (fun k => tenetref02_Classes.l0 k (n : Int) vals (E.map toE) ((E.take i).map toB) (i : Int)) r
 | 0, i, hd => by
  have hn := h.n1
  refine Ev.step (fun k => tenetref02_Classes.l0.eq_2 ..) (Ev.neg (by rw [List.length_map]; omega) (Ev.pos (by omega) (Ev.pos (by omega) ?_)))
  rw [Int.toNat_natCast, show E.take i = E by rw [List.take_of_length_le (by omega)]]
  exact hr
 | d + 1, i, hd => by
  have hi : i < E.length := by omega
  have hl := h.len
  have ha := h.arcs _ (List.getElem_mem hi)
  refine Ev.step (fun k => tenetref02_Classes.l0.eq_2 ..) (Ev.pos (by rw [List.length_map]; omega) (Ev.pos (by omega) (Ev.pos (by rw [List.length_map, List.length_take]; omega) ?_)))
  rw [rd108 E i hi, w64n _ (by omega)]
  have e : (E.take i).map toB ++ [(⟨(toE E[i]).f1, (toE E[i]).f0, wrap64 (-(toE E[i]).f2)⟩ : S108)] = (E.take (i + 1)).map toB := by
   rw [List.take_succ_eq_append_getElem hi, List.map_append]
   congr 1
   simp only [List.map_cons, List.map_nil, toE, toB]
   rw [show wrap64 (-E[i].f2) = -E[i].f2 by unfold wrap64; omega]
  rw [e]
  exact rcls_l0 h hr d (i + 1) (by omega)
end
theorem Classes_both (n : Int) (l : List S44) : ∃ r : List (List Int) × Int, Ev (fun k => graph_Classes.f k n l) r ∧ Ev (fun k => tenetref02_Classes.f k n l) r ∧
  ((validB n l = false ∧ r = ([], 4)) ∨ ∃ m : Nat, n = m ∧ validB n l = true ∧ SysOk m l ∧ (((¬ ∃ val, Sol m (sysArcs m l) val) ∧ r = ([], 20)) ∨ ∃ s, Least m (sysArcs m l) s ∧ r = (clsR (same (sysArcs m l) s) m m 0 (List.replicate m false) [], 0))) := by
 cases hv : validB n l with
 | false =>
  refine ⟨([], 4), ⟨0, fun k _ => ?_⟩, ?_, .inl ⟨rfl, rfl⟩⟩
  ·show graph_Classes.f k n l = _
   unfold graph_Classes.f
   rw [hv, if_neg (by decide)]
  ·exact Ev.bind (ev_valid n l) (Ev.neg (by rw [hv]; decide) (Ev.now _))
 | true =>
  obtain ⟨m, rfl, hs⟩ := valid_ok hv
  have e1 : ∀ k, graph_Classes.f k (m : Int) l = classesN k m l := fun k => by
   unfold graph_Classes.f
   rw [if_pos hv, Int.toNat_natCast]
  rcases solve_cases hs with ⟨s, hL, h1, h2⟩ | ⟨hno, h1, h2⟩
  ·have h := TOk.of hs hL
   refine ⟨_, ?_, ?_, .inr ⟨m, rfl, rfl, hs, .inr ⟨s, hL, rfl⟩⟩⟩
   ·refine Ev.congr (fun k => (e1 k)) (Ev.bind h1 (Ev.pos rfl (Ev.pos hL.len ?_)))
    have := clsV_ev h m 0 (List.replicate m false) [] (by omega)
    obtain ⟨N, hN⟩ := this
    exact ⟨N, fun k hk => by
     show (clsV k m (s ++ [0]) _ _ m 0 _ _).map _ = _
     exact (congrArg (Option.map fun r => (r, (0 : Int))) (hN k hk))⟩
   ·refine Ev.bind (ev_valid _ l) (Ev.pos hv (Ev.bind h2 (Ev.pos rfl (Ev.bind (ev_edges hs) ?_))))
    have := rcls_l0 h (rcls_l1 h m 0 (List.replicate m false) [] (by omega) (seen_start _) (Nat.le_refl _)) (sysArcs m l).length 0 (by omega)
    exact this
  ·refine ⟨_, ?_, ?_, .inr ⟨m, rfl, rfl, hs, .inl ⟨hno, rfl⟩⟩⟩
   ·exact Ev.congr (fun k => (e1 k)) (Ev.bind h1 (Ev.neg (by decide) (Ev.now _)))
   ·exact Ev.bind (ev_valid _ l) (Ev.pos hv (Ev.bind h2 (Ev.neg (by decide) (Ev.now _))))
end
end Go.Proofs.Ytegejpcglabhbaa.G
