/- A part of this claim's proof: texts of its author, and printed ones, packed by a program of its author's. -/
import Derived.Test.YtegejpcglabhbaaCe13
import Derived.Test.YtegejpcglabhbaaCe23
import Derived.Test.YtegejpcglabhbaaCe24
import Derived.Test.YtegejpcglabhbaaCe15
import Derived.Test.YtegejpcglabhbaaCe11
namespace Go.Proofs.Ytegejpcglabhbaa.G
open Go.RowKit Go.Proofs.YtegejpcglabhbaaW.PrintWords Go.Proofs.YtegejpcglabhbaaW.PrintLast Go.Proofs.YtegejpcglabhbaaW.PrintMore
set_option linter.unusedVariables false
set_option linter.unusedSimpArgs false
theorem w64s {z : Int} (h1 : -4000000 ≤ z) (h2 : z ≤ 4000000000) : wrap64 z = z := wrap_small h1 h2
theorem parts_l0 (l : List S96) (c b0 : Int) (b1 : List S96) (tt off : Int) (hl : l.length ≤ 8) (hv : ∀ v ∈ l, 0 ≤ v.f1 ∧ v.f1 ≤ 1000) (ho : 0 ≤ off ∧ off ≤ 1000) : ∀ (d i k : Nat) (acc : List S108), d + i = l.length → d < k → acc.length + d ≤ 1000000 →
  tenetref02_parts.l0 k acc tt off (i : Int) c l b0 b1 = some (acc ++ (l.drop i).map fun v => ⟨v.f0, tt, v.f1 - off⟩) := by
 intro d
 induction d with
 | zero =>
  intro i k acc hd hk ha
  obtain ⟨k, rfl⟩ : ∃ m, k = m + 1 := ⟨k - 1, by omega⟩
  simp only [tenetref02_parts.l0]
  rw [if_neg (by omega), List.drop_eq_nil_of_le (by omega)]
  simp
 | succ d ih =>
  intro i k acc hd hk ha
  obtain ⟨k, rfl⟩ : ∃ m, k = m + 1 := ⟨k - 1, by omega⟩
  have hil : i < l.length := by omega
  have h := hv l[i] (List.getElem_mem hil)
  simp only [tenetref02_parts.l0]
  rw [if_pos (by omega), if_pos (by omega), if_pos (by omega), rd96 l i hil, w64n _ (by omega), w64s (by omega) (by omega)]
  refine (ih (i + 1) k _ (by omega) (by omega) (by simp; omega)).trans ?_
  rw [List.drop_eq_getElem_cons hil, List.append_assoc]
  rfl
theorem parts_eq (n i : Int) (c : S44) (h : FitOk n c) (hn : 0 ≤ n) (k : Nat) (hk : 11 ≤ k) (acc : List S108) (ha : acc.length ≤ 900000) : tenetref02_parts.f k n c.f0.f0 c.f0.f1 c.f1.f0 c.f1.f1 acc = some (acc ++ (arcsOf n i c).map toE) := by
 have hb := bnd_ok h hn
 obtain ⟨k, rfl⟩ : ∃ m, k = m + 1 := ⟨k - 1, by omega⟩
 have key : ∀ (tt off : Int), 0 ≤ off → off ≤ 1000 → tenetref02_parts.j0 (k + 1) n acc tt off c.f0.f0 c.f0.f1 c.f1.f0 c.f1.f1 = some (acc ++ (⟨n, tt, c.f0.f0 - off⟩ :: c.f0.f1.map fun v => (⟨v.f0, tt, v.f1 - off⟩ : S108))) := by
  intro tt off h1 h2
  have h3 := h.a.c0
  have h4 := h.a.c1
  simp only [tenetref02_parts.j0]
  rw [if_pos (by omega), w64s (by omega) (by omega)]
  refine (parts_l0 c.f0.f1 c.f0.f0 c.f1.f0 c.f1.f1 tt off h.a.len (fun v hv => by have := h.a.var v hv; omega) ⟨h1, h2⟩ c.f0.f1.length 0 k _ (by omega) (by have := h.a.len; omega) (by have := h.a.len; simp; omega)).trans ?_
  rw [List.drop_zero, List.append_assoc]
  rfl
 have hm : (arcsOf n i c).map toE = (⟨n, (bndOf n c.f1).1, c.f0.f0 - (bndOf n c.f1).2⟩ :: c.f0.f1.map fun v => (⟨v.f0, (bndOf n c.f1).1, v.f1 - (bndOf n c.f1).2⟩ : S108)) := by
  simp [arcsOf, toE, Function.comp_def]
 rw [hm]
 unfold tenetref02_parts.f
 unfold bndOf at hb ⊢
 by_cases e : c.f1.f1.length = 1
 ·rw [if_pos e] at hb ⊢
  rw [if_pos (by omega), if_pos (by omega)]
  exact key _ _ hb.2.2.1 hb.2.2.2
 ·rw [if_neg e] at hb ⊢
  rw [if_neg (by omega)]
  exact key _ _ hb.2.2.1 hb.2.2.2
theorem edges_l1 (n : Nat) (l : List S44) (hs : SysOk n l) : ∀ (d i k : Nat) (acc : List S108), d + i = l.length → d + 12 ≤ k → acc.length + 9 * d ≤ 900000 →
  tenetref02_edges.l1 k (n : Int) l acc (i : Int) = some (acc ++ (((upTo l.length).drop i).flatMap fun i => arcsOf n i (rd_T44 l i)).map toE) := by
 intro d
 induction d with
 | zero =>
  intro i k acc hd hk ha
  obtain ⟨k, rfl⟩ : ∃ m, k = m + 1 := ⟨k - 1, by omega⟩
  simp only [tenetref02_edges.l1]
  rw [if_neg (by omega), List.drop_eq_nil_of_le (by rw [upTo_length]; omega)]
  simp
 | succ d ih =>
  intro i k acc hd hk ha
  obtain ⟨k, rfl⟩ : ∃ m, k = m + 1 := ⟨k - 1, by omega⟩
  have hil : i < l.length := by omega
  have hfit := hs.fit l[i] (List.getElem_mem hil)
  have hlen := (arcs_len (n := (n : Int)) (i := (i : Int)) hfit).1
  have hs3 := hs.len
  simp only [tenetref02_edges.l1]
  rw [if_pos (by omega), if_pos (by omega), rd44 l i hil, parts_eq n i l[i] hfit (by omega) k (by omega) acc (by omega), Option.bind_some, w64n _ (by omega)]
  refine (ih (i + 1) k _ (by omega) (by omega) (by simp; omega)).trans ?_
  have hdr : (upTo l.length).drop i = (i : Int) :: (upTo l.length).drop (i + 1) := by
   rw [List.drop_eq_getElem_cons (by rw [upTo_length]; exact hil)]
   simp [upTo]
  rw [hdr, List.flatMap_cons, List.map_append, rd44 l i hil, List.append_assoc]
theorem edges_l0 (n : Nat) (l : List S44) (hs : SysOk n l) : ∀ (d v k : Nat), d + v = n → d + 3100 ≤ k →
  tenetref02_edges.l0 k (n : Int) l (((List.range v).map (natArc n)).map toE) (v : Int) = some ((allArcs n l (upTo l.length)).map toE) := by
 intro d
 induction d with
 | zero =>
  intro v k hd hk
  obtain ⟨k, rfl⟩ : ∃ m, k = m + 1 := ⟨k - 1, by omega⟩
  have h1 := hs.n1
  have h2 := hs.len
  simp only [tenetref02_edges.l0]
  rw [if_neg (by omega)]
  refine (edges_l1 n l hs l.length 0 k _ (by omega) (by omega) (by simp; omega)).trans ?_
  rw [List.drop_zero, ← List.map_append, show v = n by omega]
  rfl
 | succ d ih =>
  intro v k hd hk
  obtain ⟨k, rfl⟩ : ∃ m, k = m + 1 := ⟨k - 1, by omega⟩
  have h1 := hs.n1
  simp only [tenetref02_edges.l0]
  rw [if_pos (by omega), if_pos (by simp; omega), w64n _ (by omega)]
  have := ih (v + 1) k (by omega) (by omega)
  rw [List.range_succ, List.map_append, List.map_append] at this
  exact this
theorem edges_eq (n : Nat) (l : List S44) (hs : SysOk n l) (k : Nat) (hk : 5000 ≤ k) : tenetref02_edges.f k (n : Int) l = some ((allArcs n l (upTo l.length)).map toE) := by
 have h1 := hs.n1
 exact edges_l0 n l hs n 0 k (by omega) (by omega)
theorem solve_l0 (n : Nat) (hn : n ≤ 1200) (r : List S94) (hr : n < r.length) : ∀ (d i k : Nat), d + i = n → d < k →
  tenetref02_solve.l0 k (n : Int) r ((List.range i).map (dR r) ++ List.replicate (n - i) 0) (i : Int) = some ((List.range n).map (dR r), true) := by
 intro d
 induction d with
 | zero =>
  intro i k hd hk
  obtain ⟨k, rfl⟩ : ∃ m, k = m + 1 := ⟨k - 1, by omega⟩
  simp only [tenetref02_solve.l0]
  rw [if_neg (by omega), show i = n by omega, Nat.sub_self]
  simp
 | succ d ih =>
  intro i k hd hk
  obtain ⟨k, rfl⟩ : ∃ m, k = m + 1 := ⟨k - 1, by omega⟩
  simp only [tenetref02_solve.l0]
  rw [if_pos (by omega), if_pos (by omega), if_pos (by omega), if_pos (by simp; omega), w64n _ (by omega)]
  have hset : ((List.range i).map (dR r) ++ List.replicate (n - i) 0).set (i : Int).toNat (rd_T94 r i).f1 = (List.range (i + 1)).map (dR r) ++ List.replicate (n - (i + 1)) 0 := by
   rw [Int.toNat_natCast, show n - i = (n - (i + 1)) + 1 by omega, List.replicate_succ, List.set_append_right _ _ (by simp), List.length_map, List.length_range, Nat.sub_self, List.set_cons_zero, List.range_succ, List.map_append, List.append_assoc]
   rfl
  rw [hset]
  exact ih (i + 1) k (by omega) (by omega)
theorem range_sum (n : Nat) (st : FSt) (hl : st.sum.length = n + 1) : st.sum.take n = (List.range n).map (sm st) := by
 apply List.ext_getElem
 ·simp [hl]
 ·intro i h1 h2
  have hi : i < n := by simpa using h2
  simp [sm, List.getD_eq_getElem?_getD, List.getElem?_eq_getElem (show i < st.sum.length by omega)]
theorem ref_solve {n : Nat} {l : List S44} (hs : SysOk n l) {R : FRes} (hR : FarPost n n (allArcs n l (upTo l.length)) R) (k : Nat) (hk : 6000 ≤ k) :
  match R with
  | .loop _ => tenetref02_solve.f k (n : Int) l = some ([], false)
  | .done st => tenetref02_solve.f k (n : Int) l = some (st.sum.take n, true) := by
 have hw := which_upTo l
 have hE := sys_arcs hs hw
 have hn := hs.n1
 have href := ref_longest hn hE (Nat.le_refl n) (sys_len hs hw (by rw [upTo_length]; exact hs.len)) R hR
 obtain ⟨k, rfl⟩ : ∃ m, k = m + 1 := ⟨k - 1, by omega⟩
 have hlong : tenetref02_longest.f (k + 1) (n : Int) ((allArcs n l (upTo l.length)).map toE) (n : Int) = some (lrounds ((allArcs n l (upTo l.length)).map toE) (n + 2) (outInit n n)) := by
  have hok : edgesOk (n : Int).toNat ((allArcs n l (upTo l.length)).map toE) := by
   intro e he
   obtain ⟨a, ha, rfl⟩ := List.mem_map.1 he
   have := hE a ha
   rw [Int.toNat_natCast]
   simp only [toE]
   omega
  unfold tenetref02_longest.f
  rw [if_pos ⟨by omega, by omega, by omega, by omega, hok⟩, Int.toNat_natCast]
  rfl
 cases R with
 | loop lp =>
  show tenetref02_solve.f (k + 1) (n : Int) l = some ([], false)
  have href2 : lrounds ((allArcs n l (upTo l.length)).map toE) (n + 2) (outInit n n) = ([], false) := href
  unfold tenetref02_solve.f
  rw [edges_eq n l hs (k + 1) (by omega), Option.bind_some, hlong, href2, Option.bind_some]
  rfl
 | done st =>
  show tenetref02_solve.f (k + 1) (n : Int) l = some (st.sum.take n, true)
  obtain ⟨hlg, out, ho, hol, hov⟩ := href
  have hkn := all_known hlg.closed
  have hls : st.sum.length = n + 1 := by obtain ⟨P, tm, T, hh⟩ := hR; exact hh.core.len.sum
  unfold tenetref02_solve.f
  rw [edges_eq n l hs (k + 1) (by omega), Option.bind_some, hlong, ho, Option.bind_some]
  dsimp only
  rw [if_pos rfl, if_pos (by omega), if_pos (by omega)]
  have h0 : (rd_T94 out (n : Int)).f1 = 0 := by
   have := (hov n (Nat.le_refl _)).2
   rw [if_pos (hkn n (Nat.le_refl _)), hlg.zero] at this
   exact this
  rw [h0, decide_eq_false (by decide)]
  simp only [tenetref02_solve.j0]
  rw [if_neg (by decide), if_pos (by omega), if_pos (by rw [Int.toNat_natCast]; omega), Int.toNat_natCast]
  have h1 := solve_l0 n hn out (by omega) n 0 k (by omega) (by omega)
  simp only [List.range_zero, List.map_nil, List.nil_append, Nat.sub_zero] at h1
  refine (show _ = _ from h1).trans ?_
  rw [range_sum n st hls]
  congr 2
  refine List.map_congr_left fun v hv => ?_
  have hv2 := List.mem_range.1 hv
  have := (hov v (by omega)).2
  rw [if_pos (hkn v (by omega))] at this
  exact this
theorem solve_cases {n : Nat} {l : List S44} (hs : SysOk n l) :
  (∃ r, Least n (sysArcs n l) r ∧ Ev (fun k => solvedN k n l) (r, 0) ∧ Ev (fun k => tenetref02_solve.f k (n : Int) l) (r, true)) ∨
  ((¬ ∃ val, Sol n (sysArcs n l) val) ∧ Ev (fun k => solvedN k n l) ([], 20) ∧ Ev (fun k => tenetref02_solve.f k (n : Int) l) ([], false)) := by
 obtain ⟨R, ⟨N, hN⟩, hR⟩ := search_spec hs (which_upTo l) (Nat.le_refl n)
 have hsolve : Ev (fun k => solvedN k n l) (solvedOf n R) := ⟨N, fun k hk => by
  show (search k n l (upTo l.length) n).map (solvedOf n) = _
  rw [show search k n l (upTo l.length) (n : Int) = some R from hN k hk]
  rfl⟩
 have href := ref_solve hs hR
 cases R with
 | loop lp =>
  refine .inr ⟨fun ⟨val, hv⟩ => hv.no_loop hR.2, hsolve, 6000, fun k hk => href k hk⟩
 | done st =>
  exact .inl ⟨_, least_of hs (which_upTo l) hR, hsolve, 6000, fun k hk => href k hk⟩
section
def tightP (E : List S105) (vals : List Int) (x y : Nat) : Prop := ∃ a ∈ E, a.f0 = x ∧ a.f1 = y ∧ vals.getD x 0 + a.f2 = vals.getD y 0
theorem getD_set {α : Type} (l : List α) (i j : Nat) (a d : α) (hi : i < l.length) : (l.set i a).getD j d = if j = i then a else l.getD j d := by
 rw [List.getD_eq_getElem?_getD, List.getElem?_set]
 by_cases e : i = j
 ·subst e
  rw [if_pos rfl, if_pos hi, if_pos rfl]; rfl
 ·rw [if_neg e, if_neg (Ne.symm e), List.getD_eq_getElem?_getD]
def tcond (value : List Int) (x : Nat) (a : S105) : Prop := rd value a.f1 = wrap64 (rd value (x : Int) + a.f2)
theorem tightStep_mem {value : List Int} {x N : Nat} (hx : x < N) {p : List (List Int) × List (List Int)} (h1 : p.1.length = N) (h2 : p.2.length = N) {a : S105} (ha0 : 0 ≤ a.f1) (ha : a.f1 < N) (z : Nat) (y : Int) :
  (y ∈ (tightStep value x p a).1.getD z [] ↔ (y ∈ p.1.getD z [] ∨ (z = x ∧ y = a.f1 ∧ tcond value x a))) ∧
  (y ∈ (tightStep value x p a).2.getD z [] ↔ (y ∈ p.2.getD z [] ∨ (a.f1 = z ∧ y = x ∧ tcond value x a))) := by
 unfold tightStep
 by_cases hc : rd value a.f1 = wrap64 (rd value (x : Int) + a.f2)
 ·rw [if_pos hc]
  simp only
  rw [getD_set _ _ _ _ _ (by omega), getD_set _ _ _ _ _ (by omega)]
  constructor
  ·by_cases e : z = x
   ·subst e
    rw [if_pos rfl, List.mem_append, List.mem_singleton]
    exact ⟨fun h => h.elim .inl fun h => .inr ⟨rfl, h, hc⟩, fun h => h.elim .inl fun h => .inr h.2.1⟩
   ·rw [if_neg e]
    exact ⟨.inl, fun h => h.elim id fun h => (e h.1).elim⟩
  ·by_cases e : z = a.f1.toNat
   ·subst e
    rw [if_pos rfl, List.mem_append, List.mem_singleton]
    exact ⟨fun h => h.elim .inl fun h => .inr ⟨by omega, h, hc⟩, fun h => h.elim .inl fun h => .inr h.2.1⟩
   ·rw [if_neg e]
    exact ⟨.inl, fun h => h.elim id fun h => (e (by omega)).elim⟩
 ·rw [if_neg hc]
  exact ⟨⟨.inl, fun h => h.elim id fun h => (hc h.2.2).elim⟩, ⟨.inl, fun h => h.elim id fun h => (hc h.2.2).elim⟩⟩
theorem tightRow_mem {value : List Int} {x N : Nat} (hx : x < N) : ∀ (row : List S105) (p : List (List Int) × List (List Int)), (∀ a ∈ row, 0 ≤ a.f1 ∧ a.f1 < N) → p.1.length = N → p.2.length = N → ∀ (z : Nat) (y : Int),
  (y ∈ (tightRow value x row p).1.getD z [] ↔ (y ∈ p.1.getD z [] ∨ (z = x ∧ ∃ a ∈ row, y = a.f1 ∧ tcond value x a))) ∧
  (y ∈ (tightRow value x row p).2.getD z [] ↔ (y ∈ p.2.getD z [] ∨ (y = x ∧ ∃ a ∈ row, a.f1 = z ∧ tcond value x a)))
 | [], p, _, _, _, z, y => by simp [tightRow]
 | a :: row, p, hr, h1, h2, z, y => by
  have hl := tightStep_length value x p a
  obtain ⟨i1, i2⟩ := tightRow_mem hx row (tightStep value x p a) (fun b hb => hr b (List.mem_cons_of_mem _ hb)) (hl.1.trans h1) (hl.2.trans h2) z y
  have ha := hr a List.mem_cons_self
  obtain ⟨s1, s2⟩ := tightStep_mem (value := value) hx h1 h2 ha.1 ha.2 z y
  have e : tightRow value x (a :: row) p = tightRow value x row (tightStep value x p a) := rfl
  rw [e, i1, i2, s1, s2]
  constructor
  ·constructor
   ·rintro ((h | ⟨h, h3, h4⟩) | ⟨h, b, hb, h3, h4⟩)
    ·exact .inl h
    ·exact .inr ⟨h, a, List.mem_cons_self, h3, h4⟩
    ·exact .inr ⟨h, b, List.mem_cons_of_mem _ hb, h3, h4⟩
   ·rintro (h | ⟨h, b, hb, h3, h4⟩)
    ·exact .inl (.inl h)
    ·rcases List.mem_cons.1 hb with rfl | hb
     ·exact .inl (.inr ⟨h, h3, h4⟩)
     ·exact .inr ⟨h, b, hb, h3, h4⟩
  ·constructor
   ·rintro ((h | ⟨h, h3, h4⟩) | ⟨h, b, hb, h3, h4⟩)
    ·exact .inl h
    ·exact .inr ⟨h3, a, List.mem_cons_self, h, h4⟩
    ·exact .inr ⟨h, b, List.mem_cons_of_mem _ hb, h3, h4⟩
   ·rintro (h | ⟨h, b, hb, h3, h4⟩)
    ·exact .inl (.inl h)
    ·rcases List.mem_cons.1 hb with rfl | hb
     ·exact .inl (.inr ⟨h3, h, h4⟩)
     ·exact .inr ⟨h, b, hb, h3, h4⟩
theorem rep_nil (N z : Nat) : (List.replicate N ([] : List Int)).getD z [] = [] := by
 rw [List.getD_eq_getElem?_getD, List.getElem?_replicate]
 split <;> rfl
theorem tightUp_mem {value : List Int} {rows : List (List S105)} (hr : ∀ x, ∀ a ∈ rows.getD x [], 0 ≤ a.f1 ∧ a.f1 < rows.length) : ∀ X, X ≤ rows.length → ∀ (z : Nat) (y : Int),
  (y ∈ (tightUp value rows X).1.getD z [] ↔ (z < X ∧ ∃ a ∈ rows.getD z [], y = a.f1 ∧ tcond value z a)) ∧
  (y ∈ (tightUp value rows X).2.getD z [] ↔ ∃ x, x < X ∧ y = x ∧ ∃ a ∈ rows.getD x [], a.f1 = z ∧ tcond value x a)
 | 0, _, z, y => by
  simp only [tightUp, rep_nil]
  exact ⟨⟨fun h => (by cases h), fun h => (by omega)⟩, ⟨fun h => (by cases h), fun ⟨x, h, _⟩ => (by omega)⟩⟩
 | X + 1, hX, z, y => by
  obtain ⟨i1, i2⟩ := tightUp_mem hr X (by omega) z y
  have hl := tightUp_length value rows X
  obtain ⟨s1, s2⟩ := tightRow_mem (value := value) (N := rows.length) (x := X) (by omega) (rows.getD X []) (tightUp value rows X) (hr X) hl.1 hl.2 z y
  have e : tightUp value rows (X + 1) = tightRow value X (rows.getD X []) (tightUp value rows X) := rfl
  rw [e, s1, s2, i1, i2]
  constructor
  ·constructor
   ·rintro (⟨h, h2⟩ | ⟨h, h2⟩)
    ·exact ⟨by omega, h2⟩
    ·subst h; exact ⟨by omega, h2⟩
   ·rintro ⟨h, h2⟩
    by_cases e2 : z = X
    ·subst e2; exact .inr ⟨rfl, h2⟩
    ·exact .inl ⟨by omega, h2⟩
  ·constructor
   ·rintro (⟨x, h, h2⟩ | ⟨h, h2⟩)
    ·exact ⟨x, by omega, h2⟩
    ·exact ⟨X, by omega, h, h2⟩
   ·rintro ⟨x, h, h2, h3⟩
    by_cases e2 : x = X
    ·subst e2; exact .inr ⟨h2, h3⟩
    ·exact .inl ⟨x, by omega, h2, h3⟩
theorem getD_zero (s : List Int) (v : Nat) : (s ++ [0]).getD v 0 = s.getD v 0 := by
 rw [List.getD_eq_getElem?_getD, List.getD_eq_getElem?_getD]
 by_cases h : v < s.length
 ·rw [List.getElem?_append_left h]
 ·rw [List.getElem?_append_right (by omega), List.getElem?_eq_none (l := s) (by omega)]
  rcases Nat.eq_zero_or_pos (v - s.length) with h2 | h2
  ·rw [h2]; rfl
  ·rw [List.getElem?_eq_none (by simp; omega)]
theorem tightStep_row {m : Nat} {value : List Int} {x : Nat} {p : List (List Int) × List (List Int)} {a : S105} (h1 : RowLen m p.1) (h2 : RowLen m p.2) : RowLen (m + 1) (tightStep value x p a).1 ∧ RowLen (m + 1) (tightStep value x p a).2 := by
 unfold tightStep
 split
 ·exact ⟨h1.grow, h2.grow⟩
 ·exact ⟨h1.more (by omega), h2.more (by omega)⟩
theorem tightRow_row {value : List Int} {x : Nat} : ∀ (row : List S105) (m : Nat) (p : List (List Int) × List (List Int)), RowLen m p.1 → RowLen m p.2 → RowLen (m + row.length) (tightRow value x row p).1 ∧ RowLen (m + row.length) (tightRow value x row p).2
 | [], m, p, h1, h2 => ⟨h1, h2⟩
 | a :: row, m, p, h1, h2 => by
  have h3 := tightStep_row (value := value) (x := x) (a := a) h1 h2
  have h4 := tightRow_row (value := value) (x := x) row (m + 1) _ h3.1 h3.2
  have e : m + (a :: row).length = m + 1 + row.length := by simp; omega
  rw [e]
  exact h4
theorem tightUp_row {value : List Int} {rows : List (List S105)} {M : Nat} (hr : ∀ x, (rows.getD x []).length ≤ M) : ∀ X, RowLen (X * M) (tightUp value rows X).1 ∧ RowLen (X * M) (tightUp value rows X).2
 | 0 => ⟨RowLen.none _ _, RowLen.none _ _⟩
 | X + 1 => by
  have ih := tightUp_row (value := value) hr X
  have h4 := tightRow_row (value := value) (x := X) (rows.getD X []) _ _ ih.1 ih.2
  have hM := hr X
  have e : X * M + (rows.getD X []).length ≤ (X + 1) * M := by rw [Nat.succ_mul]; omega
  exact ⟨h4.1.more e, h4.2.more e⟩
structure TOk (n : Nat) (E : List S105) (vals : List Int) : Prop where
 n1 : n ≤ 1200
 len : E.length ≤ 100000
 vlen : vals.length = n
 vals : ∀ v, 0 ≤ vals.getD v 0 ∧ vals.getD v 0 ≤ 1200000
 arcs : ArcsOk n E
theorem TOk.of {n : Nat} {l : List S44} (hs : SysOk n l) {r : List Int} (hr : Least n (sysArcs n l) r) : TOk n (sysArcs n l) r :=
 ⟨hs.n1, sys_len hs (which_upTo l) (by rw [upTo_length]; exact hs.len), hr.len, fun v => ⟨hr.low v, hr.high v⟩, sys_arcs hs (which_upTo l)⟩
section
variable {n : Nat} {E : List S105} {vals : List Int}
theorem tcond_iff (h : TOk n E vals) {x : Nat} {a : S105} (ha : a ∈ E) (hx : a.f0 = x) : tcond (vals ++ [0]) x a ↔ vals.getD x 0 + a.f2 = vals.getD a.f1.toNat 0 := by
 have := h.arcs a ha
 have h1 := h.vals x
 have e1 : rd (vals ++ [0]) a.f1 = vals.getD a.f1.toNat 0 := getD_zero _ _
 have e2 : rd (vals ++ [0]) (x : Int) = vals.getD x 0 := by rw [rd_nat, getD_zero]
 unfold tcond
 rw [e1, e2, show wrap64 (vals.getD x 0 + a.f2) = vals.getD x 0 + a.f2 by unfold wrap64; omega]
 exact ⟨Eq.symm, Eq.symm⟩
def TT (n : Nat) (E : List S105) (vals : List Int) := (tightUp (vals ++ [0]) (rowsOf (n + 1) E) (n + 1)).1
def BB (n : Nat) (E : List S105) (vals : List Int) := (tightUp (vals ++ [0]) (rowsOf (n + 1) E) (n + 1)).2
theorem rows_in (h : TOk n E vals) (x : Nat) : ∀ a ∈ (rowsOf (n + 1) E).getD x [], a ∈ E ∧ a.f0 = x := fun a ha => by
 by_cases hx : x ≤ n
 ·exact (rows_mem h.arcs x hx a).1 ha
 ·rw [List.getD_eq_getElem?_getD, List.getElem?_eq_none (by rw [rowsOf_length]; omega)] at ha
  cases ha
theorem TT_length : (TT n E vals).length = n + 1 := by unfold TT; rw [(tightUp_length _ _ _).1, rowsOf_length]
theorem BB_length : (BB n E vals).length = n + 1 := by unfold BB; rw [(tightUp_length _ _ _).2, rowsOf_length]
theorem up_mem (h : TOk n E vals) (z : Nat) (y : Int) : (y ∈ (tightUp (vals ++ [0]) (rowsOf (n + 1) E) (n + 1)).1.getD z [] ↔ (z < n + 1 ∧ ∃ a ∈ (rowsOf (n + 1) E).getD z [], y = a.f1 ∧ tcond (vals ++ [0]) z a)) ∧
  (y ∈ (tightUp (vals ++ [0]) (rowsOf (n + 1) E) (n + 1)).2.getD z [] ↔ ∃ x, x < n + 1 ∧ y = x ∧ ∃ a ∈ (rowsOf (n + 1) E).getD x [], a.f1 = z ∧ tcond (vals ++ [0]) x a) := tightUp_mem (value := vals ++ [0]) (rows := rowsOf (n + 1) E) (fun x a ha => by
 have h1 := (rows_in h x a ha).1
 have h2 := h.arcs a h1
 rw [rowsOf_length]
 omega) (n + 1) (by rw [rowsOf_length]; exact Nat.le_refl _) z y
theorem TT_iff (h : TOk n E vals) (x y : Nat) : nextR (TT n E vals) x y ↔ tightP E vals x y := by
 unfold nextR TT
 rw [(up_mem h x y).1]
 constructor
 ·rintro ⟨h1, a, ha, h2, h3⟩
  obtain ⟨h4, h5⟩ := rows_in h x a ha
  refine ⟨a, h4, h5, h2.symm, ?_⟩
  have := (tcond_iff h h4 h5).1 h3
  rwa [← h2, Int.toNat_natCast] at this
 ·rintro ⟨a, h1, h2, h3, h4⟩
  have h5 := h.arcs a h1
  refine ⟨by omega, a, (rows_mem h.arcs x (by omega) a).2 ⟨h1, h2⟩, h3.symm, (tcond_iff h h1 h2).2 (by rw [h3, Int.toNat_natCast]; exact h4)⟩
theorem BB_iff (h : TOk n E vals) (x y : Nat) : nextR (BB n E vals) x y ↔ tightP E vals y x := by
 unfold nextR BB
 rw [(up_mem h x y).2]
 constructor
 ·rintro ⟨z, h0, h1, a, ha, h2, h3⟩
  obtain rfl : y = z := by omega
  obtain ⟨h4, h5⟩ := rows_in h y a ha
  refine ⟨a, h4, h5, h2, ?_⟩
  have := (tcond_iff h h4 h5).1 h3
  rwa [h2, Int.toNat_natCast] at this
 ·rintro ⟨a, h1, h2, h3, h4⟩
  have h5 := h.arcs a h1
  exact ⟨y, by omega, rfl, a, (rows_mem h.arcs y (by omega) a).2 ⟨h1, h2⟩, h3, (tcond_iff h h1 h2).2 (by rw [h3, Int.toNat_natCast]; exact h4)⟩
theorem rows_short (h : TOk n E vals) (x : Nat) : ((rowsOf (n + 1) E).getD x []).length ≤ 100000 := by
 rw [List.getD_eq_getElem?_getD]
 cases hq : (rowsOf (n + 1) E)[x]? with
 | none => simp
 | some r => exact Nat.le_trans (rowsOf_row _ _ _ _ hq) h.len
theorem next_ok (h : TOk n E vals) {L : List (List Int)} (hl : L.length = n + 1) (hrow : RowLen ((n + 1) * 100000) L) (hm : ∀ x (y : Int), y ∈ L.getD x [] → 0 ≤ y ∧ y ≤ n) : NextOk L := fun row hr => by
 obtain ⟨x, hx, rfl⟩ := List.getElem_of_mem hr
 have h1 := hrow x _ (List.getElem?_eq_getElem hx)
 have h2 := h.n1
 refine ⟨by omega, fun y hy => ?_⟩
 have := hm x y (by rw [List.getD_eq_getElem?_getD, List.getElem?_eq_getElem hx]; exact hy)
 omega
theorem TT_ok (h : TOk n E vals) : NextOk (TT n E vals) := next_ok h TT_length (tightUp_row (rows_short h) (n + 1)).1 fun x y hy => by
 obtain ⟨_, a, ha, h2, _⟩ := (up_mem h x y).1.1 hy
 have h4 := h.arcs a (rows_in h x a ha).1
 omega
theorem BB_ok (h : TOk n E vals) : NextOk (BB n E vals) := next_ok h BB_length (tightUp_row (rows_short h) (n + 1)).2 fun x y hy => by
 obtain ⟨z, h1, h2, _⟩ := (up_mem h x y).2.1 hy
 omega
open Classical in
noncomputable def same (E : List S105) (vals : List Int) (v w : Nat) : Bool := decide (Lead (tightP E vals) v w ∧ Lead (tightP E vals) w v ∧ vals.getD w 0 = vals.getD v 0)
theorem same_iff {v w : Nat} : same E vals v w = true ↔ (Lead (tightP E vals) v w ∧ Lead (tightP E vals) w v ∧ vals.getD w 0 = vals.getD v 0) := by simp [same]
theorem same_equiv (E : List S105) (vals : List Int) : Equiv (same E vals) :=
 ⟨fun x => same_iff.2 ⟨.start, .start, rfl⟩, fun x y h => by obtain ⟨h1, h2, h3⟩ := same_iff.1 h; exact same_iff.2 ⟨h2, h1, h3.symm⟩, fun x y z h k => by
  obtain ⟨h1, h2, h3⟩ := same_iff.1 h
  obtain ⟨k1, k2, k3⟩ := same_iff.1 k
  exact same_iff.2 ⟨h1.trans k1, k2.trans h2, k3.trans h3⟩⟩
theorem setR_congr {R Q : Nat → Nat → Bool} {v : Nat} : ∀ (d w : Nat) (set : List Int) (seen : List Bool), (∀ x, w ≤ x → x < w + d → R v x = Q v x) → setR R v d w set seen = setR Q v d w set seen
 | 0, _, _, _, _ => rfl
 | d + 1, w, set, seen, h => by
  simp only [setR]
  rw [h w (Nat.le_refl _) (by omega), setR_congr d (w + 1) (set ++ [(w : Int)]) (seen.set w true) (fun x h1 h2 => h x (by omega) (by omega)), setR_congr d (w + 1) set seen (fun x h1 h2 => h x (by omega) (by omega))]
theorem clsV_ev (h : TOk n E vals) : ∀ (d v : Nat) (seen : List Bool) (sets : List (List Int)), d + v = n → Ev (fun k => clsV k n (vals ++ [0]) (TT n E vals) (BB n E vals) d v seen sets) (clsR (same E vals) n d v seen sets)
 | 0, v, seen, sets, _ => Ev.now _
 | d + 1, v, seen, sets, hd => by
  simp only [clsV, clsR]
  refine Ev.both (fun a => ?_) (fun a => ?_)
  ·rw [if_pos a]
   exact clsV_ev h d (v + 1) seen sets (by omega)
  ·rw [if_neg a]
   have hn := h.n1
   obtain ⟨tw, h1, h2, h3⟩ := reached_ev (TT_ok h) (by rw [TT_length]; omega) (s := v) (by rw [TT_length]; omega)
   obtain ⟨fr, k1, k2, k3⟩ := reached_ev (BB_ok h) (by rw [BB_length]; omega) (s := v) (by rw [BB_length]; omega)
   refine Ev.bind h1 (Ev.bind k1 (Ev.pos (h2.trans TT_length) (Ev.pos (k2.trans BB_length) ?_)))
   rw [setR_congr (R := memB tw fr (vals ++ [0])) (Q := same E vals) (n - v) v [] seen (fun x hx1 hx2 => ?_)]
   ·exact clsV_ev h d (v + 1) _ _ (by omega)
   ·rw [Bool.eq_iff_iff, same_iff]
    unfold memB
    rw [Bool.and_eq_true, Bool.and_eq_true, beq_iff_eq, getD_zero, getD_zero]
    have e1 : tw.getD x false = true ↔ Lead (tightP E vals) v x := (h3 x).trans ⟨fun q => q.mono fun x y => (TT_iff h x y).1, fun q => q.mono fun x y => (TT_iff h x y).2⟩
    have e2 : fr.getD x false = true ↔ Lead (tightP E vals) x v := (k3 x).trans ⟨fun q => q.flip fun x y => (BB_iff h x y).1, fun q => q.flip fun x y => (BB_iff h y x).2⟩
    rw [e1, e2]
end
end
def askOf (a : S105) : FRes → Option Bool
 | .loop _ => none
 | .done s => some (s.known.getD a.f1.toNat false && decide (a.f2 ≤ s.sum.getD a.f1.toNat 0))
def askL (k n : Nat) (rows : List (List S105)) : List S105 → Option Bool
 | [] => some true
 | a :: L => ((far k n a.f0 rows).bind (askOf a)).bind fun b => if b = true then askL k n rows L else some false
theorem askL.mono (n : Nat) (rows : List (List S105)) (k : Nat) : ∀ L, LeO (askL k n rows L) (askL (k + 1) n rows L)
 | [] => LeO.refl _
 | a :: L => LeO.bind (LeO.bind (farL.mono _ _ _ _ _ _) fun _ => LeO.refl _) fun _ => LeO.ite (askL.mono n rows k L) (LeO.refl _)
def followsN (k n : Nat) (l : List S44) (which : List Int) (c : S44) : Option Bool := askL k n (rowsOf (n + 1) (allArcs n l which)) (arcsOf (n : Int) 0 c)
def followsS (k n : Nat) (l : List S44) (c : S44) : Option (Bool × Int) := (solvedN k n l).bind fun s => if s.2 = 0 then (followsN k n l (upTo l.length) c).map fun b => (b, 0) else some (true, 0)
def graph_Follows.f (k : Nat) (a0 : Int) (l1 : List S44) (a2_0 : Int) (l2_1 : List S96) (a2_2 : Int) (l2_3 : List S96) : Option (Bool × Int) :=
 if validB a0 l1 = true then if fitsB a0 ⟨⟨a2_0, l2_1⟩, ⟨a2_2, l2_3⟩⟩ = true then if l1.length = 3000 then some (false, 4) else followsS k a0.toNat l1 ⟨⟨a2_0, l2_1⟩, ⟨a2_2, l2_3⟩⟩ else some (false, 4) else some (false, 4)
theorem followsS.mono (n : Nat) (l : List S44) (c : S44) (k : Nat) : LeO (followsS k n l c) (followsS (k + 1) n l c) :=
 LeO.bind (solvedN.mono _ _ _) fun _ => LeO.ite (LeO.map _ (askL.mono _ _ _ _)) (LeO.refl _)
theorem graph_Follows.mono : ∀ a0 l1 a2_0 l2_1 a2_2 l2_3 k, LeO (graph_Follows.f k a0 l1 a2_0 l2_1 a2_2 l2_3) (graph_Follows.f (k + 1) a0 l1 a2_0 l2_1 a2_2 l2_3) := fun _ _ _ _ _ _ _ =>
 LeO.ite (LeO.ite (LeO.ite (LeO.refl _) (followsS.mono _ _ _ _)) (LeO.refl _)) (LeO.refl _)
def Suits (val : Nat → Int) (L : List S105) : Prop := ∀ a ∈ L, val a.f0.toNat + a.f2 ≤ val a.f1.toNat
theorem suits_by {n i j : Int} {c : S44} {val : Nat → Int} : Suits val (arcsOf n i c) → Suits val (arcsOf n j c) := by
 intro h a ha
 unfold arcsOf at ha h
 rcases List.mem_cons.1 ha with rfl | ha
 ·exact h ⟨n, (bndOf n c.f1).1, c.f0.f0 - (bndOf n c.f1).2, i⟩ List.mem_cons_self
 ·obtain ⟨v, hv, rfl⟩ := List.mem_map.1 ha
  exact h ⟨v.f0, (bndOf n c.f1).1, v.f1 - (bndOf n c.f1).2, i⟩ (List.mem_cons_of_mem _ (List.mem_map.2 ⟨v, hv, rfl⟩))
theorem sol_which {n : Nat} {l : List S44} {which : List Int} {val : Nat → Int} : Sol n (allArcs n l which) val ↔ val n = 0 ∧ (∀ v, v < n → 0 ≤ val v) ∧ ∀ x ∈ which, Suits val (arcsOf (n : Int) 0 (rd_T44 l x)) := by
 constructor
 ·intro h
  refine ⟨h.zero, fun v hv => ?_, fun x hx => suits_by (i := x) fun a ha => h.arc a (List.mem_append_right _ (List.mem_flatMap.2 ⟨x, hx, ha⟩))⟩
  have := h.arc _ (nat_mem hv l which)
  simp only [natArc, Int.toNat_natCast] at this
  rw [h.zero] at this
  omega
 ·rintro ⟨h0, h1, h2⟩
  refine ⟨h0, fun a ha => ?_⟩
  rcases List.mem_append.1 ha with ha | ha
  ·obtain ⟨v, hv, rfl⟩ := List.mem_map.1 ha
   simp only [natArc, Int.toNat_natCast]
   rw [h0]
   have := h1 v (List.mem_range.1 hv)
   omega
  ·obtain ⟨x, hx, ha⟩ := List.mem_flatMap.1 ha
   exact suits_by (i := 0) (h2 x hx) a ha
theorem sol_sys {n : Nat} {l : List S44} {val : Nat → Int} : Sol n (sysArcs n l) val ↔ val n = 0 ∧ (∀ v, v < n → 0 ≤ val v) ∧ ∀ c ∈ l, Suits val (arcsOf (n : Int) 0 c) := by
 unfold sysArcs
 rw [sol_which]
 constructor
 ·rintro ⟨h0, h1, h2⟩
  refine ⟨h0, h1, fun c hc => ?_⟩
  obtain ⟨i, hi, rfl⟩ := List.mem_iff_getElem.1 hc
  have := h2 (i : Int) (List.mem_map.2 ⟨i, List.mem_range.2 hi, rfl⟩)
  rwa [rd44 l i hi] at this
 ·rintro ⟨h0, h1, h2⟩
  refine ⟨h0, h1, fun x hx => ?_⟩
  obtain ⟨i, hi, rfl⟩ := List.mem_map.1 hx
  have hi2 := List.mem_range.1 hi
  show Suits val (arcsOf (n : Int) 0 (rd_T44 l (i : Int)))
  rw [rd44 l i hi2]
  exact h2 _ (List.getElem_mem hi2)
def cAt (v p u q : Int) : S44 := ⟨⟨0, [⟨v, p⟩]⟩, ⟨0, [⟨u, q⟩]⟩⟩
theorem lvl_one {v p : Int} (h0 : 0 ≤ v) (h1 : v < 1200) (h2 : 0 ≤ p) (h3 : p ≤ 1000) : lvl 0 [⟨v, p⟩] = true := by
 unfold lvl
 rw [if_neg (by omega), if_neg (by omega), if_neg (by simp)]
 simp only [List.length_singleton, lvlVars]
 have e : rd_T96 [(⟨v, p⟩ : S96)] ((0 : Nat) : Int) = ⟨v, p⟩ := rfl
 rw [e]
 show (if v < 0 then false else if 1200 ≤ v then false else if p < 0 then false else if 1000 < p then false else if 0 ≤ idxB (fun x : S96 => x.f0 == v) [] 0 then false else true) = true
 rw [if_neg (by omega), if_neg (by omega), if_neg (by omega), if_neg (by omega), if_neg (show ¬ (0 : Int) ≤ idxB (fun x : S96 => x.f0 == v) [] 0 from by show ¬ (0 : Int) ≤ -1; decide)]
theorem fits_cAt {n v p u q : Int} (h0 : 0 ≤ v) (h1 : v < 1200) (h2 : 0 ≤ p) (h3 : p ≤ 1000) (k0 : 0 ≤ u) (k1 : u < 1200) (k2 : 0 ≤ q) (k3 : q ≤ 1000) (hv : v < n) (hu : u < n) : fitsB n (cAt v p u q) = true := by
 unfold fitsB cAt
 rw [lvl_one h0 h1 h2 h3, lvl_one k0 k1 k2 k3]
 simp [belowB, hv, hu]
theorem suits_cAt {n : Nat} {val : Nat → Int} {v p u q : Int} (_h0 : 0 ≤ v) (_k0 : 0 ≤ u) : Suits val (arcsOf (n : Int) 0 (cAt v p u q)) ↔ val (n : Int).toNat + (0 - q) ≤ val u.toNat ∧ val v.toNat + (p - q) ≤ val u.toNat := by
 have hm : arcsOf (n : Int) 0 (cAt v p u q) = [⟨n, u, 0 - q, 0⟩, ⟨v, u, p - q, 0⟩] := rfl
 rw [hm]
 unfold Suits
 simp
end Go.Proofs.Ytegejpcglabhbaa.G
