/- A part of this claim's proof: texts of its author, and printed ones, packed by a program of its author's. -/
import Derived.Test.YtegejpcglabhbaaCb31
import Derived.Test.YtegejpcglabhbaaCb25
import Derived.Test.YtegejpcglabhbaaCb32
namespace Go.Proofs.Ytegejpcglabhbaa.G
open Go.RowKit Go.Proofs.YtegejpcglabhbaaW.PrintWords Go.Proofs.YtegejpcglabhbaaW.PrintLast Go.Proofs.YtegejpcglabhbaaW.PrintMore
set_option linter.unusedVariables false
set_option linter.unusedSimpArgs false
section
theorem setR_mem (R : Nat → Nat → Bool) (v : Nat) : ∀ (d w : Nat) (set : List Int) (seen : List Bool) (x : Int), x ∈ (setR R v d w set seen).1 ↔ (x ∈ set ∨ ∃ u, w ≤ u ∧ u < w + d ∧ R v u = true ∧ x = u)
 | 0, w, set, seen, x => ⟨.inl, fun h => h.elim id fun ⟨u, h1, h2, _⟩ => (by omega)⟩
 | d + 1, w, set, seen, x => by
  simp only [setR]
  have key : ∀ (set2 : List Int) (seen2 : List Bool), (x ∈ set2 ↔ (x ∈ set ∨ (R v w = true ∧ x = w))) → (x ∈ (setR R v d (w + 1) set2 seen2).1 ↔ (x ∈ set ∨ ∃ u, w ≤ u ∧ u < w + (d + 1) ∧ R v u = true ∧ x = u)) := fun set2 seen2 h2 => by
   rw [setR_mem R v d (w + 1) set2 seen2 x, h2]
   constructor
   ·rintro ((h | ⟨h, h3⟩) | ⟨u, h3, h4, h5⟩)
    ·exact .inl h
    ·exact .inr ⟨w, Nat.le_refl _, by omega, h, h3⟩
    ·exact .inr ⟨u, by omega, by omega, h5⟩
   ·rintro (h | ⟨u, h3, h4, h5, h6⟩)
    ·exact .inl (.inl h)
    ·by_cases e : u = w
     ·subst e; exact .inl (.inr ⟨h5, h6⟩)
     ·exact .inr ⟨u, by omega, by omega, h5, h6⟩
  split
  ·rename_i hr
   exact key _ _ (by rw [List.mem_append, List.mem_singleton]; exact ⟨fun h => h.elim .inl fun h => .inr ⟨hr, h⟩, fun h => h.elim .inl fun h => .inr h.2⟩)
  ·rename_i hr
   exact key _ _ ⟨.inl, fun h => h.elim id fun h => (hr h.1).elim⟩
theorem two_long {l : List Int} {x y : Int} (hx : x ∈ l) (hy : y ∈ l) (h : x ≠ y) : 1 < l.length := by
 match l, hx, hy with
 | [a], hx, hy => exact (h ((List.mem_singleton.1 hx).trans (List.mem_singleton.1 hy).symm)).elim
 | a :: b :: l, _, _ => simp
theorem least_ex {P : Nat → Prop} (n : Nat) : P n → ∃ j, P j ∧ ∀ i, P i → j ≤ i := by
 induction n using Nat.strongRecOn with
 | ind n ih =>
  intro h
  by_cases hc : ∃ i, i < n ∧ P i
  ·obtain ⟨i, h1, h2⟩ := hc
   exact ih i h1 h2
  ·exact ⟨n, h, fun i hi => Classical.byContradiction fun h2 => hc ⟨i, by omega, hi⟩⟩
section
variable {R : Nat → Nat → Bool} {n : Nat}
theorem clsR_old : ∀ (d v : Nat) (seen : List Bool) (sets : List (List Int)) (S : List Int), S ∈ sets → S ∈ clsR R n d v seen sets
 | 0, _, _, _, _, h => h
 | d + 1, v, seen, sets, S, h => by
  simp only [clsR]
  split
  ·exact clsR_old d _ _ _ S h
  ·refine clsR_old d _ _ _ S ?_
   unfold moreSets
   split
   ·exact List.mem_append_left _ h
   ·exact h
theorem clsR_sound : ∀ (d v : Nat) (seen : List Bool) (sets : List (List Int)) (S : List Int), S ∈ clsR R n d v seen sets → S ∈ sets ∨ ∃ j, ∀ x ∈ S, ∃ u : Nat, x = u ∧ R j u = true
 | 0, _, _, _, _, h => .inl h
 | d + 1, v, seen, sets, S, h => by
  simp only [clsR] at h
  split at h
  ·exact clsR_sound d _ _ _ S h
  ·rcases clsR_sound d _ _ _ S h with h | h
   ·unfold moreSets at h
    split at h
    ·rcases List.mem_append.1 h with h | h
     ·exact .inl h
     ·right
      refine ⟨v, fun x hx => ?_⟩
      rw [List.mem_singleton.1 h, setR_mem] at hx
      rcases hx with hx | ⟨u, _, _, h3, h4⟩
      ·cases hx
      ·exact ⟨u, h4, h3⟩
    ·exact .inl h
   ·exact .inr h
theorem clsR_full (hR : Equiv R) {a b : Nat} (ha : a < n) (hb : b < n) (hab : a ≠ b) (h : R a b = true) {j : Nat} (hj : R j a = true) (hleast : ∀ i, R i a = true → j ≤ i) : ∀ (d v : Nat) (seen : List Bool) (sets : List (List Int)), d + v = n → v ≤ j → SeenOk R n v seen → ∃ S ∈ clsR R n d v seen sets, (a : Int) ∈ S ∧ (b : Int) ∈ S
 | 0, v, seen, sets, hd, hv, hs => by
  have := hleast a (hR.refl a)
  omega
 | d + 1, v, seen, sets, hd, hv, hs => by
  have hja := hleast a (hR.refl a)
  have hjb := hleast b (hR.symm _ _ h)
  simp only [clsR]
  by_cases hq : seen.getD v false = true
  ·rw [if_pos hq]
   have hne : v ≠ j := fun e => by
    obtain ⟨i, h1, h2⟩ := (hs.iff v (by omega)).1 hq
    have := hleast i (hR.trans _ _ _ (e ▸ h2) hj)
    omega
   exact clsR_full hR ha hb hab h hj hleast d (v + 1) seen sets (by omega) (by omega) (seen_old hR hs (by omega) hq)
  ·rw [if_neg hq]
   by_cases e : v = j
   ·subst e
    have m1 : (a : Int) ∈ (setR R v (n - v) v [] seen).1 := (setR_mem R v _ _ _ _ _).2 (.inr ⟨a, hja, by omega, hj, rfl⟩)
    have m2 : (b : Int) ∈ (setR R v (n - v) v [] seen).1 := (setR_mem R v _ _ _ _ _).2 (.inr ⟨b, hjb, by omega, hR.trans _ _ _ hj h, rfl⟩)
    refine ⟨_, clsR_old _ _ _ _ (setR R v (n - v) v [] seen).1 ?_, m1, m2⟩
    unfold moreSets
    rw [if_pos (two_long m1 m2 (by omega))]
    exact List.mem_append_right _ (List.mem_singleton.2 rfl)
   ·exact clsR_full hR ha hb hab h hj hleast d (v + 1) _ _ (by omega) (by omega) (seen_new hR hs (by omega))
theorem cls_pair (hR : Equiv R) {a b : Nat} (ha : a < n) (hb : b < n) (hab : a ≠ b) : (∃ S ∈ clsR R n n 0 (List.replicate n false) [], (a : Int) ∈ S ∧ (b : Int) ∈ S) ↔ R a b = true := by
 constructor
 ·rintro ⟨S, hS, h1, h2⟩
  rcases clsR_sound n 0 _ _ S hS with h | ⟨j, h⟩
  ·cases h
  ·obtain ⟨u, e1, r1⟩ := h _ h1
   obtain ⟨u2, e2, r2⟩ := h _ h2
   obtain rfl : a = u := by omega
   obtain rfl : b = u2 := by omega
   exact hR.trans _ _ _ (hR.symm _ _ r1) r2
 ·intro h
  obtain ⟨j, hj, hl⟩ : ∃ j, R j a = true ∧ ∀ i, R i a = true → j ≤ i := least_ex a (hR.refl a)
  exact clsR_full hR ha hb hab h hj hl n 0 _ _ (by omega) (Nat.zero_le _) (seen_start R)
end
theorem ev_has (l : List Int) (hl : l.length ≤ 1000000) (x : Int) : ∃ i, Ev (fun k => tenetref00_HasInt.f k l x) i ∧ (i ≥ 0 ↔ x ∈ l) := by
 have key : ∀ d i, d + i = l.length → ∃ r, Ev (fun k => tenetref00_HasInt.l0 k l x (i : Int)) r ∧ (r ≥ 0 ↔ x ∈ l.drop i) := by
  intro d
  induction d with
  | zero =>
   intro i hd
   refine ⟨-1, Ev.step (fun k => tenetref00_HasInt.l0.eq_2 ..) (Ev.neg (by omega) (Ev.now _)), ?_⟩
   rw [List.drop_eq_nil_of_le (by omega)]
   exact ⟨fun h => (by omega), fun h => (by cases h)⟩
  | succ d ih =>
   intro i hd
   have hi : i < l.length := by omega
   have e : rd l (i : Int) = l[i] := rdi_get hi
   rw [List.drop_eq_getElem_cons hi]
   by_cases h : l[i] = x
   ·refine ⟨i, Ev.step (fun k => tenetref00_HasInt.l0.eq_2 ..) (Ev.pos (by omega) (Ev.pos (by omega) (Ev.pos (by rw [e]; exact h) (Ev.now _)))), ?_⟩
    exact ⟨fun _ => by rw [h]; exact List.mem_cons_self, fun _ => by omega⟩
   ·obtain ⟨r, h1, h2⟩ := ih (i + 1) (by omega)
    refine ⟨r, Ev.step (fun k => tenetref00_HasInt.l0.eq_2 ..) (Ev.pos (by omega) (Ev.pos (by omega) (Ev.neg (by rw [e]; exact h) ?_))), ?_⟩
    ·rw [w64n _ (by omega)]; exact h1
    ·rw [h2, List.mem_cons]
     exact ⟨.inr, fun h3 => h3.elim (fun h4 => (h h4.symm).elim) id⟩
 obtain ⟨r, h1, h2⟩ := key l.length 0 (by omega)
 exact ⟨r, h1, by rw [List.drop_zero] at h2; exact h2⟩
section
variable {n : Nat} {E : List S105} {s : List Int}
theorem Lead.rise {val : Nat → Int} (hv : Sol n E val) {a b : Nat} (h : Lead (tightP E s) a b) : val a + (s.getD b 0 - s.getD a 0) ≤ val b := by
 induction h with
 | start => omega
 | @step x y _ h2 ih =>
  obtain ⟨e, he, h3, h4, h5⟩ := h2
  have := hv.arc e he
  rw [h3, h4, Int.toNat_natCast, Int.toNat_natCast] at this
  omega
open Classical in
theorem equal_iff (hL : Least n E s) (hnat : ∀ v, v < n → ∃ a ∈ E, a.f0 = n ∧ a.f1 = (v : Int) ∧ a.f2 = 0) (hE : ArcsOk n E) {a b : Nat} (ha : a < n) (hb : b < n) :
  same E s a b = true ↔ ∀ val, Sol n E val → val a = val b := by
 constructor
 ·intro h val hv
  obtain ⟨h1, h2, h3⟩ := same_iff.1 h
  have := h1.rise hv
  have := h2.rise hv
  omega
 ·intro h
  have hlead : ∀ x y, x < n → y < n → (∀ val, Sol n E val → val x = val y) → Lead (tightP E s) x y := fun x y hx hy heq => by
   refine Classical.byContradiction fun hno => ?_
   have hz : s.getD n 0 = 0 := hL.sol.zero
   by_cases hn : Lead (tightP E s) x n
   ·have hS : Sol n E (fun u => if Lead (tightP E s) x u then s.getD u 0 else s.getD u 0 - 1) := by
     refine ⟨by rw [if_pos hn]; exact hz, fun e he => ?_⟩
     have h1 := hL.sol.arc e he
     have h2 := hE e he
     (try dsimp only at h1); (try dsimp only)
     by_cases c1 : Lead (tightP E s) x e.f0.toNat
     ·by_cases c2 : Lead (tightP E s) x e.f1.toNat
      ·rw [if_pos c1, if_pos c2]; exact h1
      ·rw [if_pos c1, if_neg c2]
       have : s.getD e.f0.toNat 0 + e.f2 ≠ s.getD e.f1.toNat 0 := fun e3 => c2 (c1.step ⟨e, he, by omega, by omega, e3⟩)
       omega
     ·rw [if_neg c1]
      split <;> omega
    have h1 := hL.le hS y (by omega)
    (try dsimp only at h1)
    rw [if_neg hno] at h1
    omega
   ·have hS : Sol n E (fun u => if Lead (tightP E s) x u then s.getD u 0 + 1 else s.getD u 0) := by
     refine ⟨by rw [if_neg hn]; exact hz, fun e he => ?_⟩
     have h1 := hL.sol.arc e he
     have h2 := hE e he
     (try dsimp only at h1); (try dsimp only)
     by_cases c1 : Lead (tightP E s) x e.f0.toNat
     ·by_cases c2 : Lead (tightP E s) x e.f1.toNat
      ·rw [if_pos c1, if_pos c2]; omega
      ·rw [if_pos c1, if_neg c2]
       have : s.getD e.f0.toNat 0 + e.f2 ≠ s.getD e.f1.toNat 0 := fun e3 => c2 (c1.step ⟨e, he, by omega, by omega, e3⟩)
       omega
     ·rw [if_neg c1]
      split <;> omega
    have h1 := heq _ hS
    have h2 := heq _ hL.sol
    (try dsimp only at h1 h2)
    rw [if_pos .start, if_neg hno] at h1
    omega
  exact same_iff.2 ⟨hlead a b ha hb h, hlead b a hb ha (fun val hv => (h val hv).symm), (h _ hL.sol).symm⟩
end
theorem pairs_l0 {v w : Int} {sets : List (List Int)} (hl : sets.length ≤ 1000000) (hs : ∀ s ∈ sets, s.length ≤ 1000000) {b1 b2 one : Bool} (h : one = (b1 && b2)) (P : List Int → Prop) (hP : ∀ S, P S ↔ (v ∈ S ∧ w ∈ S)) (hone : one = true ↔ ∃ S ∈ sets, P S) :
  ∀ d i (x : Bool), d + i = sets.length → (x = true ↔ ∃ S ∈ sets.take i, P S) → Ev (fun k => tenetlaw02_GraphPairs.l0 k v w sets b1 0 b2 0 x (i : Int)) true := by
 intro d
 induction d with
 | zero =>
  intro i x hd hx
  rw [List.take_of_length_le (by omega), ← hone] at hx
  have hxo : x = one := by cases x <;> cases one <;> simp_all
  refine Ev.step (fun k => tenetlaw02_GraphPairs.l0.eq_2 ..) (Ev.neg (by omega) (Ev.pos rfl (Ev.pos rfl ?_)))
  cases b1 with
  | true => exact Ev.pos rfl (Ev.pos (by rw [hxo, h]; simp) (Ev.bind ev_awake (Ev.now _)))
  | false => exact Ev.neg (by decide) (Ev.pos (by rw [hxo, h]; simp) (Ev.bind ev_awake (Ev.now _)))
 | succ d ih =>
  intro i x hd hx
  have hi : i < sets.length := by omega
  have htk : sets.take (i + 1) = sets.take i ++ [sets[i]] := List.take_succ_eq_append_getElem hi
  refine Ev.step (fun k => tenetlaw02_GraphPairs.l0.eq_2 ..) (Ev.pos (by omega) ?_)
  rw [w64n _ (by omega), rd_L8_nat hi]
  have step : ∀ y : Bool, (y = true ↔ (x = true ∨ P sets[i])) → Ev (fun k => tenetlaw02_GraphPairs.l0 k v w sets b1 0 b2 0 y ((i + 1 : Nat) : Int)) true := fun y hy => ih (i + 1) y (by omega) (by
   rw [hy, hx, htk]
   constructor
   ·rintro (⟨S, h1, h2⟩ | h1)
    ·exact ⟨S, List.mem_append_left _ h1, h2⟩
    ·exact ⟨_, List.mem_append_right _ (List.mem_singleton.2 rfl), h1⟩
   ·rintro ⟨S, h1, h2⟩
    rcases List.mem_append.1 h1 with h1 | h1
    ·exact .inl ⟨S, h1, h2⟩
    ·rw [List.mem_singleton.1 h1] at h2; exact .inr h2)
  cases x with
  | true => exact Ev.pos rfl (step true ⟨fun _ => .inl rfl, fun _ => rfl⟩)
  | false =>
   obtain ⟨i1, h1, h2⟩ := ev_has sets[i] (hs _ (List.getElem_mem hi)) v
   obtain ⟨i2, h3, h4⟩ := ev_has sets[i] (hs _ (List.getElem_mem hi)) w
   refine Ev.neg (by decide) (Ev.pos (by omega) (Ev.bind h1 (Ev.both (fun a => Ev.bind h3 (step _ ?_)) (fun a => step _ ?_))))
   ·rw [decide_eq_true_eq, h4, hP]
    exact ⟨fun h5 => .inr ⟨h2.1 a, h5⟩, fun h5 => h5.elim (fun h6 => (by cases h6)) fun h6 => h6.2⟩
   ·exact ⟨fun h5 => (by cases h5), fun h5 => h5.elim (fun h6 => (by cases h6)) fun h6 => (a (h2.2 ((hP _).1 h6).1)).elim⟩
theorem ev_at (v p : Int) : Ev (fun k => tenetlaw02_at.f v p) (0, [⟨v, p⟩]) := ⟨0, fun k _ => rfl⟩
theorem pairs_j0 (n : Int) (l : List S44) {v w : Int} (hv0 : 0 ≤ v) (hw0 : 0 ≤ w) (hvn : v < n) (hwn : w < n) (hne : v ≠ w) (hl : l.length ≠ 3000) : Ev (fun k => tenetlaw02_GraphPairs.j0 k n l v w false) true := by
 obtain ⟨r, h1, _, h3⟩ := Classes_both n l
 obtain ⟨k1, k2⟩ := classes_small h3
 refine Ev.step (fun k => tenetlaw02_GraphPairs.j0.eq_2 ..) (Ev.neg (by decide) (Ev.bind h1 ?_))
 rcases h3 with ⟨_, rfl⟩ | ⟨m, rfl, hval, hs, ⟨_, rfl⟩ | ⟨s, hL, rfl⟩⟩
 ·exact Ev.neg (by decide) (Ev.bind ev_awake (Ev.now _))
 ·exact Ev.neg (by decide) (Ev.bind ev_awake (Ev.now _))
 ·obtain ⟨a, rfl⟩ := Int.eq_ofNat_of_zero_le hv0
  obtain ⟨b, rfl⟩ := Int.eq_ofNat_of_zero_le hw0
  have hn := hs.n1
  have hfo : ∀ x y : Nat, x < m → y < m → ∃ q, Ev (fun k => graph_Follows.f k (m : Int) l 0 [⟨(x : Int), 0⟩] 0 [⟨(y : Int), 0⟩]) (q, 0) ∧ (q = true ↔ ∀ val, Sol m (sysArcs m l) val → val x ≤ val y) := fun x y hx hy => by
   have hfit : fitsB (m : Int) (cAt x 0 y 0) = true := fits_cAt (by omega) (by omega) (by omega) (by omega) (by omega) (by omega) (by omega) (by omega) (by omega) (by omega)
   rcases Follows_ev (m : Int) l (cAt x 0 y 0) with ⟨m2, he, _, _, _, _, _, q, hq1, hq2⟩ | ⟨hq, _⟩
   ·obtain rfl : m = m2 := by omega
    refine ⟨q, hq1, hq2.trans ⟨fun h val hval => ?_, fun h val hval => ?_⟩⟩
    ·have := (suits_cAt (by omega) (by omega)).1 (h val hval)
     simp only [Int.toNat_natCast] at this
     omega
    ·refine (suits_cAt (by omega) (by omega)).2 ?_
     have h4 := h val hval
     have h5 := hval.zero
     have h6 := hval.arc _ (mem_sysArcs.2 (.inl ⟨y, hy, rfl⟩))
     simp only [natArc, Int.toNat_natCast] at h6 ⊢
     omega
   ·rcases hq with hq | hq | hq
    ·rw [hval] at hq; cases hq
    ·rw [hfit] at hq; cases hq
    ·exact (hl hq).elim
  obtain ⟨q1, f1, f2⟩ := hfo a b (by omega) (by omega)
  obtain ⟨q2, f3, f4⟩ := hfo b a (by omega) (by omega)
  have hsame := equal_iff hL (fun u hu => ⟨natArc m u, mem_sysArcs.2 (.inl ⟨u, hu, rfl⟩), rfl, rfl, rfl⟩) (sys_arcs hs (which_upTo l)) (a := a) (b := b) (by omega) (by omega)
  have hpair := cls_pair (same_equiv (sysArcs m l) s) (n := m) (a := a) (b := b) (by omega) (by omega) (by omega)
  refine Ev.pos rfl (Ev.bind (ev_at _ _) (Ev.bind (ev_at _ _) (Ev.bind f1 (Ev.bind (ev_at _ _) (Ev.bind (ev_at _ _) (Ev.bind f3 ?_))))))
  refine pairs_l0 (v := (a : Int)) (w := (b : Int)) k1 k2 (b1 := q1) (b2 := q2) (one := same (sysArcs m l) s a b) ?_ (fun S => (a : Int) ∈ S ∧ (b : Int) ∈ S) (fun _ => Iff.rfl) hpair.symm _ 0 false (Nat.add_zero _) ⟨fun h => (by cases h), fun ⟨S, h, _⟩ => (by simp at h)⟩
  rw [Bool.eq_iff_iff, hsame, Bool.and_eq_true, f2, f4]
  exact ⟨fun h => ⟨fun val hv => by have := h val hv; omega, fun val hv => by have := h val hv; omega⟩, fun h val hv => by have := h.1 val hv; have := h.2 val hv; omega⟩
theorem GraphPairs_pure (n : Int) (l : List S44) (v w : Int) : ∃ k, tenetlaw02_GraphPairs.f k n l v w = some true := by
 refine Ev.rounds (g := fun k => tenetlaw02_GraphPairs.f k n l v w) ?_
 have ht : Ev (fun k => tenetlaw02_GraphPairs.j0 k n l v w true) true := Ev.step (fun k => tenetlaw02_GraphPairs.j0.eq_2 ..) (Ev.pos rfl (Ev.bind ev_awake (Ev.now _)))
 rcases ev_heavy n l 40 (by omega) with h | ⟨_, h4, h⟩
 ·exact Ev.bind h (Ev.pos rfl ht)
 ·refine Ev.bind h (Ev.neg (by decide) (Ev.both (fun _ => ht) fun c1 => Ev.both (fun _ => ht) fun c2 => Ev.both (fun _ => ht) fun c3 => Ev.both (fun _ => ht) fun c4 => ?_))
  by_cases e : v = w
  ·rw [show (v == w) = true from beq_iff_eq.2 e]; exact ht
  ·rw [show (v == w) = false from beq_eq_false_iff_ne.2 e]
   exact pairs_j0 n l (by omega) (by omega) (by omega) (by omega) e (by omega)
end
end Go.Proofs.Ytegejpcglabhbaa.G
