/- A part of this claim's proof: texts of its author, and printed ones, packed by a program of its author's. -/
import Derived.Test.YtegejpcglabhbaaCd13
import Derived.Test.YtegejpcglabhbaaCd15
import Derived.Test.YtegejpcglabhbaaCd16
import Derived.Test.YtegejpcglabhbaaCd11
import Derived.Test.YtegejpcglabhbaaCd3
import Derived.Lib.SliceRun
import Derived.WalkSpells
namespace Go.Proofs.Ytegejpcglabhbaa.G
open Go.RowKit Go.Proofs.YtegejpcglabhbaaW.PrintWords Go.Proofs.YtegejpcglabhbaaW.PrintLast Go.Proofs.YtegejpcglabhbaaW.PrintMore
set_option linter.unusedVariables false
set_option linter.unusedSimpArgs false
theorem w64s {z : Int} (h1 : -4000000 ≤ z) (h2 : z ≤ 4000000000) : wrap64 z = z := wrap_small h1 h2
theorem parts_l0 (l : List S96) (c b0 : Int) (b1 : List S96) (tt off : Int) (hl : l.length ≤ 8) (hv : ∀ v ∈ l, 0 ≤ v.f1 ∧ v.f1 ≤ 1000) (ho : 0 ≤ off ∧ off ≤ 1000) : ∀ (d i k : Nat) (acc : List S108), d + i = l.length → d < k → acc.length + d ≤ 1000000 →
  tenetref02_parts.l0 k acc tt off (i : Int) c l b0 b1 = some (acc ++ (l.drop i).map fun v => ⟨v.f0, tt, v.f1 - off⟩) := by
 intro d
 induction d with
 | zero =>
  intro i k acc hd hk ha
  obtain ⟨k, rfl⟩ : ∃ m, k = m + 1 := ⟨k - 1, by omega⟩
  simp only [tenetref02_parts.l0]
  rw [if_neg (by omega), List.drop_eq_nil_of_le (by omega)]
  simp
 | succ d ih =>
  intro i k acc hd hk ha
  obtain ⟨k, rfl⟩ : ∃ m, k = m + 1 := ⟨k - 1, by omega⟩
  have hil : i < l.length := by omega
  have h := hv l[i] (List.getElem_mem hil)
  simp only [tenetref02_parts.l0]
  rw [if_pos (by omega), if_pos (by omega), if_pos (by omega), rd96 l i hil, w64n _ (by omega), w64s (by omega) (by omega)]
  refine (ih (i + 1) k _ (by omega) (by omega) (by simp; omega)).trans ?_
  rw [List.drop_eq_getElem_cons hil, List.append_assoc]
  rfl
theorem parts_eq (n i : Int) (c : S44) (h : FitOk n c) (hn : 0 ≤ n) (k : Nat) (hk : 11 ≤ k) (acc : List S108) (ha : acc.length ≤ 900000) : tenetref02_parts.f k n c.f0.f0 c.f0.f1 c.f1.f0 c.f1.f1 acc = some (acc ++ (arcsOf n i c).map toE) := by
 have hb := bnd_ok h hn
 obtain ⟨k, rfl⟩ : ∃ m, k = m + 1 := ⟨k - 1, by omega⟩
 have key : ∀ (tt off : Int), 0 ≤ off → off ≤ 1000 → tenetref02_parts.j0 (k + 1) n acc tt off c.f0.f0 c.f0.f1 c.f1.f0 c.f1.f1 = some (acc ++ (⟨n, tt, c.f0.f0 - off⟩ :: c.f0.f1.map fun v => (⟨v.f0, tt, v.f1 - off⟩ : S108))) := by
  intro tt off h1 h2
  have h3 := h.a.c0
  have h4 := h.a.c1
  simp only [tenetref02_parts.j0]
  rw [if_pos (by omega), w64s (by omega) (by omega)]
  refine (parts_l0 c.f0.f1 c.f0.f0 c.f1.f0 c.f1.f1 tt off h.a.len (fun v hv => by have := h.a.var v hv; omega) ⟨h1, h2⟩ c.f0.f1.length 0 k _ (by omega) (by have := h.a.len; omega) (by have := h.a.len; simp; omega)).trans ?_
  rw [List.drop_zero, List.append_assoc]
  rfl
 have hm : (arcsOf n i c).map toE = (⟨n, (bndOf n c.f1).1, c.f0.f0 - (bndOf n c.f1).2⟩ :: c.f0.f1.map fun v => (⟨v.f0, (bndOf n c.f1).1, v.f1 - (bndOf n c.f1).2⟩ : S108)) := by
  simp [arcsOf, toE, Function.comp_def]
 rw [hm]
 unfold tenetref02_parts.f
 unfold bndOf at hb ⊢
 by_cases e : c.f1.f1.length = 1
 ·rw [if_pos e] at hb ⊢
  rw [if_pos (by omega), if_pos (by omega)]
  exact key _ _ hb.2.2.1 hb.2.2.2
 ·rw [if_neg e] at hb ⊢
  rw [if_neg (by omega)]
  exact key _ _ hb.2.2.1 hb.2.2.2
theorem edges_l1 (n : Nat) (l : List S44) (hs : SysOk n l) : ∀ (d i k : Nat) (acc : List S108), d + i = l.length → d + 12 ≤ k → acc.length + 9 * d ≤ 900000 →
  tenetref02_edges.l1 k (n : Int) l acc (i : Int) = some (acc ++ (((upTo l.length).drop i).flatMap fun i => arcsOf n i (rd_T44 l i)).map toE) := by
 intro d
 induction d with
 | zero =>
  intro i k acc hd hk ha
  obtain ⟨k, rfl⟩ : ∃ m, k = m + 1 := ⟨k - 1, by omega⟩
  simp only [tenetref02_edges.l1]
  rw [if_neg (by omega), List.drop_eq_nil_of_le (by rw [upTo_length]; omega)]
  simp
 | succ d ih =>
  intro i k acc hd hk ha
  obtain ⟨k, rfl⟩ : ∃ m, k = m + 1 := ⟨k - 1, by omega⟩
  have hil : i < l.length := by omega
  have hfit := hs.fit l[i] (List.getElem_mem hil)
  have hlen := (arcs_len (n := (n : Int)) (i := (i : Int)) hfit).1
  have hs3 := hs.len
  simp only [tenetref02_edges.l1]
  rw [if_pos (by omega), if_pos (by omega), rd44 l i hil, parts_eq n i l[i] hfit (by omega) k (by omega) acc (by omega), Option.bind_some, w64n _ (by omega)]
  refine (ih (i + 1) k _ (by omega) (by omega) (by simp; omega)).trans ?_
  have hdr : (upTo l.length).drop i = (i : Int) :: (upTo l.length).drop (i + 1) := by
   rw [List.drop_eq_getElem_cons (by rw [upTo_length]; exact hil)]
   simp [upTo]
  rw [hdr, List.flatMap_cons, List.map_append, rd44 l i hil, List.append_assoc]
theorem edges_l0 (n : Nat) (l : List S44) (hs : SysOk n l) : ∀ (d v k : Nat), d + v = n → d + 3100 ≤ k →
  tenetref02_edges.l0 k (n : Int) l (((List.range v).map (natArc n)).map toE) (v : Int) = some ((allArcs n l (upTo l.length)).map toE) := by
 intro d
 induction d with
 | zero =>
  intro v k hd hk
  obtain ⟨k, rfl⟩ : ∃ m, k = m + 1 := ⟨k - 1, by omega⟩
  have h1 := hs.n1
  have h2 := hs.len
  simp only [tenetref02_edges.l0]
  rw [if_neg (by omega)]
  refine (edges_l1 n l hs l.length 0 k _ (by omega) (by omega) (by simp; omega)).trans ?_
  rw [List.drop_zero, ← List.map_append, show v = n by omega]
  rfl
 | succ d ih =>
  intro v k hd hk
  obtain ⟨k, rfl⟩ : ∃ m, k = m + 1 := ⟨k - 1, by omega⟩
  have h1 := hs.n1
  simp only [tenetref02_edges.l0]
  rw [if_pos (by omega), if_pos (by simp; omega), w64n _ (by omega)]
  have := ih (v + 1) k (by omega) (by omega)
  rw [List.range_succ, List.map_append, List.map_append] at this
  exact this
theorem edges_eq (n : Nat) (l : List S44) (hs : SysOk n l) (k : Nat) (hk : 5000 ≤ k) : tenetref02_edges.f k (n : Int) l = some ((allArcs n l (upTo l.length)).map toE) := by
 have h1 := hs.n1
 exact edges_l0 n l hs n 0 k (by omega) (by omega)
theorem solve_l0 (n : Nat) (hn : n ≤ 1200) (r : List S94) (hr : n < r.length) : ∀ (d i k : Nat), d + i = n → d < k →
  tenetref02_solve.l0 k (n : Int) r ((List.range i).map (dR r) ++ List.replicate (n - i) 0) (i : Int) = some ((List.range n).map (dR r), true) := by
 intro d
 induction d with
 | zero =>
  intro i k hd hk
  obtain ⟨k, rfl⟩ : ∃ m, k = m + 1 := ⟨k - 1, by omega⟩
  simp only [tenetref02_solve.l0]
  rw [if_neg (by omega), show i = n by omega, Nat.sub_self]
  simp
 | succ d ih =>
  intro i k hd hk
  obtain ⟨k, rfl⟩ : ∃ m, k = m + 1 := ⟨k - 1, by omega⟩
  simp only [tenetref02_solve.l0]
  rw [if_pos (by omega), if_pos (by omega), if_pos (by omega), if_pos (by simp; omega), w64n _ (by omega)]
  have hset : ((List.range i).map (dR r) ++ List.replicate (n - i) 0).set (i : Int).toNat (rd_T94 r i).f1 = (List.range (i + 1)).map (dR r) ++ List.replicate (n - (i + 1)) 0 := by
   rw [Int.toNat_natCast, show n - i = (n - (i + 1)) + 1 by omega, List.replicate_succ, List.set_append_right _ _ (by simp), List.length_map, List.length_range, Nat.sub_self, List.set_cons_zero, List.range_succ, List.map_append, List.append_assoc]
   rfl
  rw [hset]
  exact ih (i + 1) k (by omega) (by omega)
theorem range_sum (n : Nat) (st : FSt) (hl : st.sum.length = n + 1) : st.sum.take n = (List.range n).map (sm st) := by
 apply List.ext_getElem
 ·simp [hl]
 ·intro i h1 h2
  have hi : i < n := by simpa using h2
  simp [sm, List.getD_eq_getElem?_getD, List.getElem?_eq_getElem (show i < st.sum.length by omega)]
theorem ref_solve {n : Nat} {l : List S44} (hs : SysOk n l) {R : FRes} (hR : FarPost n n (allArcs n l (upTo l.length)) R) (k : Nat) (hk : 6000 ≤ k) :
  match R with
  | .loop _ => tenetref02_solve.f k (n : Int) l = some ([], false)
  | .done st => tenetref02_solve.f k (n : Int) l = some (st.sum.take n, true) := by
 have hw := which_upTo l
 have hE := sys_arcs hs hw
 have hn := hs.n1
 have href := ref_longest hn hE (Nat.le_refl n) (sys_len hs hw (by rw [upTo_length]; exact hs.len)) R hR
 obtain ⟨k, rfl⟩ : ∃ m, k = m + 1 := ⟨k - 1, by omega⟩
 have hlong : tenetref02_longest.f (k + 1) (n : Int) ((allArcs n l (upTo l.length)).map toE) (n : Int) = some (lrounds ((allArcs n l (upTo l.length)).map toE) (n + 2) (outInit n n)) := by
  have hok : edgesOk (n : Int).toNat ((allArcs n l (upTo l.length)).map toE) := by
   intro e he
   obtain ⟨a, ha, rfl⟩ := List.mem_map.1 he
   have := hE a ha
   rw [Int.toNat_natCast]
   simp only [toE]
   omega
  unfold tenetref02_longest.f
  rw [if_pos ⟨by omega, by omega, by omega, by omega, hok⟩, Int.toNat_natCast]
  rfl
 cases R with
 | loop lp =>
  show tenetref02_solve.f (k + 1) (n : Int) l = some ([], false)
  have href2 : lrounds ((allArcs n l (upTo l.length)).map toE) (n + 2) (outInit n n) = ([], false) := href
  unfold tenetref02_solve.f
  rw [edges_eq n l hs (k + 1) (by omega), Option.bind_some, hlong, href2, Option.bind_some]
  rfl
 | done st =>
  show tenetref02_solve.f (k + 1) (n : Int) l = some (st.sum.take n, true)
  obtain ⟨hlg, out, ho, hol, hov⟩ := href
  have hkn := all_known hlg.closed
  have hls : st.sum.length = n + 1 := by obtain ⟨P, tm, T, hh⟩ := hR; exact hh.core.len.sum
  unfold tenetref02_solve.f
  rw [edges_eq n l hs (k + 1) (by omega), Option.bind_some, hlong, ho, Option.bind_some]
  dsimp only
  rw [if_pos rfl, if_pos (by omega), if_pos (by omega)]
  have h0 : (rd_T94 out (n : Int)).f1 = 0 := by
   have := (hov n (Nat.le_refl _)).2
   rw [if_pos (hkn n (Nat.le_refl _)), hlg.zero] at this
   exact this
  rw [h0, decide_eq_false (by decide)]
  simp only [tenetref02_solve.j0]
  rw [if_neg (by decide), if_pos (by omega), if_pos (by rw [Int.toNat_natCast]; omega), Int.toNat_natCast]
  have h1 := solve_l0 n hn out (by omega) n 0 k (by omega) (by omega)
  simp only [List.range_zero, List.map_nil, List.nil_append, Nat.sub_zero] at h1
  refine (show _ = _ from h1).trans ?_
  rw [range_sum n st hls]
  congr 2
  refine List.map_congr_left fun v hv => ?_
  have hv2 := List.mem_range.1 hv
  have := (hov v (by omega)).2
  rw [if_pos (hkn v (by omega))] at this
  exact this
theorem solve_cases {n : Nat} {l : List S44} (hs : SysOk n l) :
  (∃ r, Least n (sysArcs n l) r ∧ Ev (fun k => solvedN k n l) (r, 0) ∧ Ev (fun k => tenetref02_solve.f k (n : Int) l) (r, true)) ∨
  ((¬ ∃ val, Sol n (sysArcs n l) val) ∧ Ev (fun k => solvedN k n l) ([], 20) ∧ Ev (fun k => tenetref02_solve.f k (n : Int) l) ([], false)) := by
 obtain ⟨R, ⟨N, hN⟩, hR⟩ := search_spec hs (which_upTo l) (Nat.le_refl n)
 have hsolve : Ev (fun k => solvedN k n l) (solvedOf n R) := ⟨N, fun k hk => by
  show (search k n l (upTo l.length) n).map (solvedOf n) = _
  rw [show search k n l (upTo l.length) (n : Int) = some R from hN k hk]
  rfl⟩
 have href := ref_solve hs hR
 cases R with
 | loop lp =>
  refine .inr ⟨fun ⟨val, hv⟩ => hv.no_loop hR.2, hsolve, 6000, fun k hk => href k hk⟩
 | done st =>
  exact .inl ⟨_, least_of hs (which_upTo l) hR, hsolve, 6000, fun k hk => href k hk⟩
theorem solve_sol {n : Nat} {l : List S44} (hs : SysOk n l) {val : Nat → Int} (hv : Sol n (sysArcs n l) val) : ∃ r, Least n (sysArcs n l) r ∧ Ev (fun k => solvedN k n l) (r, 0) ∧ Ev (fun k => tenetref02_solve.f k (n : Int) l) (r, true) := by
 rcases solve_cases hs with h | ⟨h, _⟩
 ·exact h
 ·exact (h ⟨val, hv⟩).elim
theorem RSolve_ev {n : Nat} {l : List S44} (hv : validB (n : Int) l = true) {r : List Int} {b : Bool} (h : Ev (fun k => tenetref02_solve.f k (n : Int) l) (r, b)) : Ev (fun k => tenetref02_Solve.f k (n : Int) l) (if b = true then (r, 0) else ([], 20)) := by
 refine Ev.bind (ev_valid n l) ?_
 refine Ev.pos hv ?_
 refine Ev.bind h ?_
 cases b with
 | true => exact Ev.pos rfl (Ev.now _)
 | false => exact Ev.neg (show ¬ (false = true) by decide) (Ev.now _)
def askOf (a : S105) : FRes → Option Bool
 | .loop _ => none
 | .done s => some (s.known.getD a.f1.toNat false && decide (a.f2 ≤ s.sum.getD a.f1.toNat 0))
def askL (k n : Nat) (rows : List (List S105)) : List S105 → Option Bool
 | [] => some true
 | a :: L => ((far k n a.f0 rows).bind (askOf a)).bind fun b => if b = true then askL k n rows L else some false
theorem askL.mono (n : Nat) (rows : List (List S105)) (k : Nat) : ∀ L, LeO (askL k n rows L) (askL (k + 1) n rows L)
 | [] => LeO.refl _
 | a :: L => LeO.bind (LeO.bind (farL.mono _ _ _ _ _ _) fun _ => LeO.refl _) fun _ => LeO.ite (askL.mono n rows k L) (LeO.refl _)
def followsN (k n : Nat) (l : List S44) (which : List Int) (c : S44) : Option Bool := askL k n (rowsOf (n + 1) (allArcs n l which)) (arcsOf (n : Int) 0 c)
def followsS (k n : Nat) (l : List S44) (c : S44) : Option (Bool × Int) := (solvedN k n l).bind fun s => if s.2 = 0 then (followsN k n l (upTo l.length) c).map fun b => (b, 0) else some (true, 0)
def graph_Follows.f (k : Nat) (a0 : Int) (l1 : List S44) (a2_0 : Int) (l2_1 : List S96) (a2_2 : Int) (l2_3 : List S96) : Option (Bool × Int) :=
 if validB a0 l1 = true then if fitsB a0 ⟨⟨a2_0, l2_1⟩, ⟨a2_2, l2_3⟩⟩ = true then if l1.length = 3000 then some (false, 4) else followsS k a0.toNat l1 ⟨⟨a2_0, l2_1⟩, ⟨a2_2, l2_3⟩⟩ else some (false, 4) else some (false, 4)
theorem followsS.mono (n : Nat) (l : List S44) (c : S44) (k : Nat) : LeO (followsS k n l c) (followsS (k + 1) n l c) :=
 LeO.bind (solvedN.mono _ _ _) fun _ => LeO.ite (LeO.map _ (askL.mono _ _ _ _)) (LeO.refl _)
theorem graph_Follows.mono : ∀ a0 l1 a2_0 l2_1 a2_2 l2_3 k, LeO (graph_Follows.f k a0 l1 a2_0 l2_1 a2_2 l2_3) (graph_Follows.f (k + 1) a0 l1 a2_0 l2_1 a2_2 l2_3) := fun _ _ _ _ _ _ _ =>
 LeO.ite (LeO.ite (LeO.ite (LeO.refl _) (followsS.mono _ _ _ _)) (LeO.refl _)) (LeO.refl _)
def Suits (val : Nat → Int) (L : List S105) : Prop := ∀ a ∈ L, val a.f0.toNat + a.f2 ≤ val a.f1.toNat
theorem suits_by {n i j : Int} {c : S44} {val : Nat → Int} : Suits val (arcsOf n i c) → Suits val (arcsOf n j c) := by
 intro h a ha
 unfold arcsOf at ha h
 rcases List.mem_cons.1 ha with rfl | ha
 ·exact h ⟨n, (bndOf n c.f1).1, c.f0.f0 - (bndOf n c.f1).2, i⟩ List.mem_cons_self
 ·obtain ⟨v, hv, rfl⟩ := List.mem_map.1 ha
  exact h ⟨v.f0, (bndOf n c.f1).1, v.f1 - (bndOf n c.f1).2, i⟩ (List.mem_cons_of_mem _ (List.mem_map.2 ⟨v, hv, rfl⟩))
theorem sol_which {n : Nat} {l : List S44} {which : List Int} {val : Nat → Int} : Sol n (allArcs n l which) val ↔ val n = 0 ∧ (∀ v, v < n → 0 ≤ val v) ∧ ∀ x ∈ which, Suits val (arcsOf (n : Int) 0 (rd_T44 l x)) := by
 constructor
 ·intro h
  refine ⟨h.zero, fun v hv => ?_, fun x hx => suits_by (i := x) fun a ha => h.arc a (List.mem_append_right _ (List.mem_flatMap.2 ⟨x, hx, ha⟩))⟩
  have := h.arc _ (nat_mem hv l which)
  simp only [natArc, Int.toNat_natCast] at this
  rw [h.zero] at this
  omega
 ·rintro ⟨h0, h1, h2⟩
  refine ⟨h0, fun a ha => ?_⟩
  rcases List.mem_append.1 ha with ha | ha
  ·obtain ⟨v, hv, rfl⟩ := List.mem_map.1 ha
   simp only [natArc, Int.toNat_natCast]
   rw [h0]
   have := h1 v (List.mem_range.1 hv)
   omega
  ·obtain ⟨x, hx, ha⟩ := List.mem_flatMap.1 ha
   exact suits_by (i := 0) (h2 x hx) a ha
theorem sol_sys {n : Nat} {l : List S44} {val : Nat → Int} : Sol n (sysArcs n l) val ↔ val n = 0 ∧ (∀ v, v < n → 0 ≤ val v) ∧ ∀ c ∈ l, Suits val (arcsOf (n : Int) 0 c) := by
 unfold sysArcs
 rw [sol_which]
 constructor
 ·rintro ⟨h0, h1, h2⟩
  refine ⟨h0, h1, fun c hc => ?_⟩
  obtain ⟨i, hi, rfl⟩ := List.mem_iff_getElem.1 hc
  have := h2 (i : Int) (List.mem_map.2 ⟨i, List.mem_range.2 hi, rfl⟩)
  rwa [rd44 l i hi] at this
 ·rintro ⟨h0, h1, h2⟩
  refine ⟨h0, h1, fun x hx => ?_⟩
  obtain ⟨i, hi, rfl⟩ := List.mem_map.1 hx
  have hi2 := List.mem_range.1 hi
  show Suits val (arcsOf (n : Int) 0 (rd_T44 l (i : Int)))
  rw [rd44 l i hi2]
  exact h2 _ (List.getElem_mem hi2)
def someOf (l : List S44) (which : List Int) : List S44 := which.map (rd_T44 l)
theorem sol_some {n : Nat} {l : List S44} {which : List Int} {val : Nat → Int} : Sol n (sysArcs n (someOf l which)) val ↔ Sol n (allArcs n l which) val := by
 rw [sol_sys, sol_which]
 simp only [someOf, List.mem_map, forall_exists_index, and_imp, forall_apply_eq_imp_iff₂]
theorem some_ok {n : Nat} {l : List S44} (hs : SysOk n l) {which : List Int} (hw : Which l which) (hw3 : which.length ≤ 3000) : SysOk n (someOf l which) :=
 ⟨hs.n1, by unfold someOf; rw [List.length_map]; exact hw3, fun c hc => by
  obtain ⟨x, hx, rfl⟩ := List.mem_map.1 hc
  exact hs.fit _ (mem_rd44 (hw x hx).1 (hw x hx).2)⟩
theorem grown_refl (w : World) (row : Option Nat) : w.grownBy w row := ⟨rfl, rfl, rfl, Nat.le_refl _, fun _ _ _ => rfl⟩
theorem grown_below {a w w1 : World} {row : Option Nat} (h : a.grownBy w row) (hb : Below w.heap.size w w1) : a.grownBy w1 row :=
 ⟨hb.os.trans h.os, hb.tape.trans h.tape, hb.output.trans h.output, Nat.le_trans h.size hb.size, fun i hi hn => (hb.block i (Nat.lt_of_lt_of_le hi h.size)).trans (h.block i hi hn)⟩
theorem grown_set {a w : World} {g : Nat} (h : a.grownBy w (some g)) (j : Nat) (u : Value) : a.grownBy (w.setCell ⟨g, j, none⟩ u) (some g) :=
 ⟨h.os, h.tape, h.output, by simpa [World.setCell] using h.size, fun i hi hne => (Below.heap_setCell w ⟨g, j, none⟩ u i (by rintro rfl; exact hne rfl)).trans (h.block i hi hne)⟩
theorem below_grown {w w1 w2 : World} {g : Nat} (h : Below w.heap.size w w1) (hg : w1.grownBy w2 (some g)) (hge : w.heap.size ≤ g) : Below w.heap.size w w2 :=
 ⟨hg.os.trans h.os, hg.tape.trans h.tape, hg.output.trans h.output, Nat.le_trans h.size hg.size, fun i hi => (hg.block i (Nat.lt_of_lt_of_le hi h.size) (fun e => by have := Option.some.inj e; omega)).trans (h.block i hi)⟩
theorem R_clear {base : Nat} {ok : Nat → Prop} {g n cap : Nat} : ∀ (m i : Nat) (w w0 : World) (x : List Int), (Kd.int .i64).R 3 w base ok (.slice (some ⟨g, 0, none⟩) n cap) x → w0.grownBy w (some g) →
  ∃ y, y.length = x.length ∧ y.take i = x.take i ∧ (Kd.int .i64).R 3 (w.setCells g i (List.replicate m (.int .i64 0))) base ok (.slice (some ⟨g, 0, none⟩) n cap) y ∧ w0.grownBy (w.setCells g i (List.replicate m (.int .i64 0))) (some g)
 | 0, i, w, w0, x, h, hg => ⟨x, rfl, rfl, h, hg⟩
 | m + 1, i, w, w0, x, h, hg => by
  have h1 := (Kd.R_putg h (i : Int) (0 : Int)).1
  rw [Int.toNat_natCast] at h1
  obtain ⟨y, h2, h3, h4, h5⟩ := R_clear m (i + 1) _ w0 _ h1 (grown_set hg i _)
  refine ⟨y, by rw [h2, List.length_set], ?_, h4, h5⟩
  have e : (y.take (i + 1)).take i = ((x.set i 0).take (i + 1)).take i := by rw [h3]
  rw [List.take_take, List.take_take, show min i (i + 1) = i by omega, List.take_set_of_le (by omega)] at e
  exact e
def PredS (S : World → Prop) (g : Nat) (cap : Array Value) (p : Int → Bool) : Prop := ∀ x W, S W → Calls Try.prog g (#[.int .i64 x] ++ cap) W fun e W' => e = .returned (.bool (p x)) ∧ Below W.heap.size W W'
def leftB (p : Int → Bool) (l : List Int) : List Int := l.filter fun x => !p x
theorem leftB_snoc {p : Int → Bool} {l : List Int} {j : Nat} (h : j < l.length) : leftB p (l.take (j + 1)) = if p l[j] = true then leftB p (l.take j) else leftB p (l.take j) ++ [l[j]] := by
 unfold leftB
 rw [List.take_succ_eq_append_getElem h, List.filter_append]
 cases hp : p l[j] <;> simp [hp]
theorem idxB_first {p : Int → Bool} : ∀ (l : List Int) (i : Nat), (idxB p l i = -1 ∧ leftB p l = l) ∨ ∃ (d : Nat) (h : d < l.length), idxB p l i = ((i + d : Nat) : Int) ∧ leftB p (l.take (d + 1)) = l.take d
 | [], i => .inl ⟨rfl, rfl⟩
 | x :: l, i => by
  simp only [idxB]
  by_cases h : p x = true
  ·rw [if_pos h]
   exact .inr ⟨0, by simp, by simp, by simp [leftB, h]⟩
  ·rw [if_neg h]
   have h' : p x = false := by simpa using h
   rcases idxB_first l (i + 1) with ⟨h1, h2⟩ | ⟨d, h1, h2, h3⟩
   ·exact .inl ⟨h1, by unfold leftB at h2 ⊢; simp [h', h2]⟩
   ·exact .inr ⟨d + 1, by simp; omega, by rw [h2]; omega, by unfold leftB at h3 ⊢; simp [h', h3]⟩
theorem S_cells {S : World → Prop} {g : Nat} (hS2 : ∀ W i u, S W → S (W.setCell ⟨g, i, none⟩ u)) : ∀ (vs : List Value) (i : Nat) (W : World), S W → S (W.setCells g i vs)
 | [], i, W, h => h
 | v :: vs, i, W, h => S_cells hS2 vs (i + 1) _ (hS2 W i v h)
set_option maxHeartbeats 4000000 in
set_option maxRecDepth 100000 in
theorem deleteF (S : World → Prop) (g : Nat) (cap : Array Value) (he : ∀ (args : Array Value) (W : World), (callFunc g args).run Try.prog W = .ok (.enter g args) W) (p : Int → Bool) (A : Option Addr) (c : Nat) (l : List Int) (base : Nat) (ok : Nat → Prop) (w : World)
  (hS : S w) (hS1 : ∀ W W', S W → Below W.heap.size W W' → S W') (hS2 : ∀ b, A = some ⟨b, 0, none⟩ → ∀ W i u, S W → S (W.setCell ⟨b, i, none⟩ u)) (hp : PredS S g cap p) (hr : (Kd.int .i64).R 3 w base ok (.slice A l.length c) l) :
  Calls Try.prog 69 #[.slice A l.length c, .func (.func g) #[] cap] w fun e w' => e = .returned (.slice A (leftB p l).length c) ∧ (Kd.int .i64).R 3 w' base ok (.slice A (leftB p l).length c) (leftB p l) ∧ S w' ∧ w.grownBy w' (Value.slice A l.length c).ownBlock := by
 have H := Aside0.mk (idxInt g cap he p A c l w (Kd.R_reads' hr).2.2 (Kd.R_reads' hr).2.1 (fun x W hb => hp x W (hS1 w W hS hb)))
 have HR := Aside0.mk hr
 have HS := Aside0.mk hS
 have HP := Aside0.mk hp
 have H1 := Aside0.mk hS1
 have H2 := Aside0.mk hS2
 have hm : l.length ≤ 9223372036854775807 := (Kd.R_reads' hr).2.2.2.1
 clear hr hS hp hS1 hS2
 rcases idxB_first (p := p) l 0 with ⟨h1, h2⟩ | ⟨i0, hi0, h1, h2⟩
 ·rw [h1] at H
  have HL := Aside0.mk h2
  clear h1 h2
  go_enter Try.func69, Try.ntmps69
  go_wp2_with (fail)
  refine H.out.mono ?_
  rintro e w1 ⟨rfl, hb⟩
  have HB := Aside0.mk hb
  clear hb
  go_wp2
  go_ret
  rw [HL.out]
  exact ⟨rfl, Kd.R_below HR.out HB.out, H1.out _ _ HS.out HB.out, grown_below (grown_refl _ _) HB.out⟩
 ·obtain ⟨b, c2, hv, hbb, hbl, _⟩ := Kd.R_form HR.out (by omega)
  injection hv with hA hn hc
  subst hA
  subst hc
  clear hn hbb hbl
  rw [h1] at H
  have HL := Aside0.mk h2
  have hc := (Kd.R_reads' HR.out).2.1
  rw [Nat.zero_add] at H
  clear h1 h2
  go_enter Try.func69, Try.ntmps69
  go_wp2_with (fail)
  refine H.out.mono ?_
  rintro e w1 ⟨rfl, hb⟩
  have HB := Aside0.mk (grown_below (grown_refl w (some b)) hb)
  have HR1 := Aside0.mk (Kd.R_below HR.out hb)
  have HS1 := Aside0.mk (H1.out _ _ HS.out hb)
  clear hb H HR HS
  have hd0 : ((i0 : Int) == -1) = false := beq_eq_false_iff_ne.2 (by omega)
  go_wp2
  clear hd0
  go_loopg [5, 6] (l.length - (i0 + 1)) (fun kq v5 v6 w' => ∃ (i j : Nat) (x : List Int), v5 = .int .i64 (i : Int) ∧ v6 = .int .i64 (j : Int) ∧ Aside0 (kq + j = l.length) ∧ Aside0 (i < j) ∧ Aside0 (x.length = l.length) ∧ Aside0 (x.take i = leftB p (l.take j)) ∧ Aside0 (i = (leftB p (l.take j)).length) ∧ Aside0 (x.drop j = l.drop j) ∧
   Aside0 ((Kd.int .i64).R 3 w' base ok (.slice (some ⟨b, 0, none⟩) l.length c) x) ∧ Aside0 (S w') ∧ Aside0 (w.grownBy w' (some b)))
  case atStart => exact ⟨i0, i0 + 1, l, rfl, by go_num, ⟨by omega⟩, ⟨by omega⟩, ⟨rfl⟩, ⟨HL.out.symm⟩, ⟨by rw [HL.out, List.length_take]; omega⟩, ⟨rfl⟩, HR1, HS1, HB⟩
  case round =>
   clear HR1 HS1 HB HL
   obtain ⟨i, j, x, rfl, rfl, HK, HIJ, HX, HT, HI, HD, HR, HS, HB⟩ := hrel
   have hij := HIJ.out
   have hxl := HX.out
   by_cases hlt : j < l.length
   ·have hxj : x[j]? = l[j]? := by
     have := congrArg (fun y : List Int => y[0]?) HD.out
     simpa using this
    have hrd : rd x (j : Int) = l[j] := by
     unfold rd
     rw [Int.toNat_natCast, List.getD_eq_getElem?_getD, hxj, List.getElem?_eq_getElem hlt]
     rfl
    obtain ⟨q0, f0⟩ := Kd.R_celln 0 HR.out (j : Int) (by omega) (by omega)
    replace q0 : wr.cell? ⟨b, (j : Int).toNat, none⟩ = some (.int .i64 (rd x (j : Int))) := q0
    rw [hrd, Int.toNat_natCast] at q0
    rw [Int.toNat_natCast] at f0
    have HSN := Aside0.mk (leftB_snoc (p := p) hlt)
    have HDR := Aside0.mk (show x.drop (j + 1) = l.drop (j + 1) by rw [← List.tail_drop, ← List.tail_drop, HD.out])
    generalize l[j] = v at q0 HSN
    clear hxj hrd
    go_wp2_with (fail)
    refine (HP.out v _ HS.out).mono ?_
    rintro e w2 ⟨rfl, hb⟩
    have HR2 := Aside0.mk (Kd.R_below HR.out hb)
    have HS2 := Aside0.mk (H1.out _ _ HS.out hb)
    have HB2 := Aside0.mk (grown_below HB.out hb)
    clear hb q0 f0 HR HS HB
    cases hpv : p v with
    | true =>
     have HE := Aside0.mk (show leftB p (l.take (j + 1)) = leftB p (l.take j) by rw [HSN.out, if_pos hpv])
     clear hpv HSN
     go_wp2
     go_roundg (l.length - j - 1)
     case measure => have := HK.out; omega
     case rel => exact ⟨i, j + 1, x, rfl, by go_num, ⟨by omega⟩, ⟨by omega⟩, HX, ⟨by rw [HE.out]; exact HT.out⟩, ⟨by rw [HE.out]; exact HI.out⟩, HDR, HR2, HS2, HB2⟩
    | false =>
     have HE := Aside0.mk (show leftB p (l.take (j + 1)) = leftB p (l.take j) ++ [v] by rw [HSN.out, if_neg (by rw [hpv]; decide)])
     obtain ⟨q1, f1⟩ := Kd.R_celln 0 HR2.out (i : Int) (by omega) (by omega)
     have HR3 := Aside0.mk (Kd.R_putg HR2.out (i : Int) v).1
     simp only [Int.toNat_natCast] at q1 f1 HR3
     have HS3 := Aside0.mk (H2.out b rfl _ i (.int .i64 v) HS2.out)
     have HB3 := Aside0.mk (grown_set HB2.out i (.int .i64 v))
     clear hpv HSN HR2 HS2 HB2
     go_wp2
     go_roundg (l.length - j - 1)
     case measure => have := HK.out; omega
     case rel => exact ⟨i + 1, j + 1, x.set i v, by go_num, by go_num, ⟨by omega⟩, ⟨by omega⟩, ⟨by rw [List.length_set]; exact hxl⟩, ⟨by
       rw [HE.out, ← HT.out, List.take_succ_eq_append_getElem (by rw [List.length_set]; omega), List.take_set_of_le (Nat.le_refl _), List.getElem_set_self]⟩, ⟨by rw [HE.out, List.length_append, ← HI.out]; rfl⟩, ⟨by rw [List.drop_set_of_lt (by omega)]; exact HDR.out⟩, HR3, HS3, HB3⟩
   ·have hj : j = l.length := by have := HK.out; omega
    have hil : i < l.length := by omega
    have HE := Aside0.mk (show x.take i = leftB p l by rw [HT.out, hj, List.take_length])
    have HI2 := Aside0.mk (show i = (leftB p l).length by rw [HI.out, hj, List.take_length])
    obtain ⟨y, hy1, hy2, hy3, hy4⟩ := R_clear (l.length - i) i wr w x HR.out HB.out
    have HY := Aside0.mk (Kd.R_take hy3 (m := i) (by omega))
    rw [hy2] at HY
    have HG := Aside0.mk hy4
    have HS3 := Aside0.mk (S_cells (H2.out b rfl) (List.replicate (l.length - i) (.int .i64 0)) i wr HS.out)
    have hcl : ∀ ty, (Builtin.clear_ #[25] ty #[.slice (some ⟨b, i, none⟩) (l.length - i) (c - i)]).run Try.prog wr = .ok (.tuple #[]) (wr.setCells b i (List.replicate (l.length - i) (.int .i64 0))) := fun ty =>
     Lib.run_clear_slice wr 25 3 ty (.int .i64 0) Try.underlying25 (fun W => by kernel_rfl) rfl rfl b i (l.length - i) (c - i) (by omega)
      (fun t ht => by have := (Kd.R_celln 0 HR.out ((i + t : Nat) : Int) (by omega) (by omega)).1; rw [Int.toNat_natCast] at this; rw [this]; rfl)
      (fun t ht => by have := (Kd.R_celln 0 HR.out ((i + t : Nat) : Int) (by omega) (by omega)).2; rw [Int.toNat_natCast] at this; exact this)
    have hci : ¬ c = i := by omega
    have hic : i ≤ c := by omega
    clear hy1 hy2 hy3 hy4 HR HB HS HT HI HD HX hj
    generalize wr.setCells b i (List.replicate (l.length - i) (.int .i64 0)) = w9 at HY HG HS3 hcl
    go_wp2
    go_ret
    rw [← HI2.out, ← HE.out]
    exact ⟨rfl, HY.out, HS3.out, HG.out⟩
section
def nums (k : IntKind) (xs : List Int) : List Value := xs.map fun x => .int k x
section
variable {P : Program} {ops : Array Oper} {rest : List Oper} {o : Oper} {a : Act} {Q : Exit → Act → World → Prop}
theorem print_append_row {w0 W : World} (base : Nat) (hgd : o.guard = none) (s x : Operand) (t e : TypeId) (k : IntKind) (bytes : Nat)
  (ho : o.op = .call { callee := .builtin .append, args := #[s, x], argTypes := #[t, t] })
  (ht : P.underlying t = some (.slice e)) (hinfo : (P.info? e).map (fun i => (i.zero, i.size, i.bytes)) = some (some (.int k 0), 1, bytes)) (hb0 : 0 < bytes)
  (v : Value) (xs ys : List Int) (A : Option Addr) (m c : Nat) (hs : a.eval s = v) (hx : a.eval x = .slice A m c)
  (HO : W.ownsRow base e 1 v xs.length (nums k xs)) (HR : ReadsInt W k A m ys) (HB : Below base w0 W) (hbase : base ≤ W.heap.size) (hl : (xs.length + m) * bytes ≤ 140737488355328)
  (h : ∀ v1 w1, w1.ownsRow base e 1 v1 (xs ++ ys).length (nums k (xs ++ ys)) → Below base w0 w1 → W.grownBy w1 v.ownBlock → (v1.ownBlock = v.ownBlock ∨ ∃ b, v1.ownBlock = some b ∧ W.heap.size ≤ b) → wpList P ops Q rest (a.put o.dst v1) w1) :
  wpList P ops Q (o :: rest) a W := by
 obtain ⟨i0, hi, hzz⟩ := Option.map_eq_some_iff.1 hinfo
 simp only [Prod.mk.injEq] at hzz
 obtain ⟨hz0, hz1, hz2⟩ := hzz
 have hm : ys.length = m := HR.1
 have hlen : xs.length + m ≤ 140737488355328 := Nat.le_trans (Nat.le_mul_of_pos_right _ hb0) hl
 have hrun : ∃ v1 w1, (Builtin.append_ #[t, t] o.type #[v, .slice A m c]).run P W = .ok v1 w1 ∧ w1.ownsRow base e 1 v1 (xs ++ ys).length (nums k (xs ++ ys)) ∧ W.grownBy w1 v.ownBlock ∧ (v1.ownBlock = v.ownBlock ∨ v1.ownBlock = some W.heap.size) := by
  rcases A with _ | ad
  ·have h0 : m = 0 := by
    rcases Nat.eq_zero_or_pos m with h0 | h0
    ·exact h0
    ·obtain ⟨ad, h, _⟩ := HR.2.2 h0
     cases h
   subst h0
   obtain rfl : ys = [] := List.eq_nil_of_length_eq_zero hm
   refine ⟨v, W, ?_, by simpa using HO, World.grownBy.refl W _, .inl rfl⟩
   rcases HO.2 with ⟨rfl, hn⟩ | ⟨g, cap, cur, rfl, _, _, hnc, _⟩
   ·simp [Builtin.append_, run_underlying ht, sizeOf, typeInfo, hi, Builtin.lenOf, Builtin.firstCells]
   ·simp [Builtin.append_, run_underlying ht, sizeOf, typeInfo, hi, Builtin.lenOf, Builtin.firstCells, hnc, storeCells]
  ·have hcells : ∀ j u, (nums k ys)[j]? = some u → W.cell? (ad.add j) = some u := by
    intro j u hu
    have hj : j < ys.length := by
     rcases Nat.lt_or_ge j ys.length with h | h
     ·exact h
     ·simp [nums, List.getElem?_eq_none h] at hu
    obtain ⟨ad', h', hc⟩ := HR.2.2 (by omega)
    injection h' with h'
    subst h'
    have := hc j (by omega)
    simp [nums, List.getElem?_eq_getElem hj] at hu
    subst hu
    rw [this]
    simp [List.getD_eq_getElem?_getD, List.getElem?_eq_getElem hj]
   obtain ⟨v1, w1, hr, h2, h3, _, h5⟩ := run_append_own_at (P := P) W base t o.type e i0 (.int k 0) 1 bytes ht hi hz0 hz1 hz2 rfl (by omega) v xs.length (nums k xs) HO ad m c (nums k ys) (by simp [nums, hm]) hcells
    (by intro u hu; simp only [nums, List.mem_map] at hu; obtain ⟨q, _, rfl⟩ := hu; rfl) (by simp only [maxLen]; omega) hl hbase
   exact ⟨v1, w1, hr, by simpa [nums, hm] using h2, h3, h5⟩
 obtain ⟨v1, w1, hr, hown, hg, hat⟩ := hrun
 refine wpList_plain hgd fun K hK => ?_
 unfold Oper.wp execOp
 simp only [ho, resolve, invoke, builtin, Sem.run_bind, Sem.run_pure, Result.andThen_ok, List.map_toArray, List.map_cons, List.map_nil, hs, hx, hr]
 refine hK _ _ (h v1 w1 hown (HB.grown hg hbase (own_base HO)) hg ?_)
 rcases hat with hat | hat
 ·exact .inl hat
 ·exact .inr ⟨_, hat, Nat.le_refl _⟩
end
theorem own_R {w : World} {base : Nat} {v : Value} {l : List Int} (h : w.ownsRow base 3 1 v l.length (nums .i64 l)) : (Kd.int .i64).R 3 w base (fun _ => True) v l :=
 ⟨fun _ _ => trivial, nums .i64 l, h, by simp [nums, Kd.int, Kd.scalar], fun j p hj => by
  show ((nums .i64 l).drop (j * 1)).take 1 = [Value.int .i64 p]
  obtain ⟨h1, h2⟩ := List.getElem?_eq_some_iff.1 hj
  rw [Nat.mul_one, List.drop_eq_getElem_cons (by simpa [nums] using h1), List.take_succ_cons, List.take_zero]
  simp [nums, h2]⟩
theorem C_reads {w : World} {A : Option Addr} {l : List Int} (h : Kd.C (Kd.int .i64) w A l.length l) : ReadsInt w .i64 A l.length l := by
 refine ⟨rfl, h.2.1, fun h0 => ?_⟩
 obtain ⟨ad, e, _⟩ := Kd.at_int h (0 : Int) (by omega) (by omega)
 refine ⟨ad, e, fun j hj => ?_⟩
 obtain ⟨ad2, e2, q⟩ := Kd.at_int h (j : Int) (by omega) (by omega)
 rw [e] at e2
 cases e2
 rw [Int.toNat_natCast] at q
 exact q
theorem empty_own (w : World) : (w.alloc (.cells #[] 3)).ownsRow w.heap.size 3 1 (.slice (some ⟨w.heap.size, 0, none⟩) 0 0) ([] : List Int).length (nums .i64 []) :=
 ⟨rfl, .inr ⟨w.heap.size, 0, #[], rfl, Nat.le_refl _, blk_new w _, Nat.le_refl _, Nat.zero_le _, rfl, rfl⟩⟩
set_option maxHeartbeats 1000000 in
set_option maxRecDepth 100000 in
theorem cloneI (A : Option Addr) (c : Nat) (l : List Int) (w : World) (hr : Kd.C (Kd.int .i64) w A l.length l) (hc : l.length ≤ c) (hlen : l.length ≤ 1000000) :
  Calls Try.prog 70 #[.slice A l.length c] w fun e w' => ∃ v, e = .returned v ∧ Kd.R (Kd.int .i64) 3 w' w.heap.size (fun _ => True) v l ∧ Below w.heap.size w w' := by
 cases A with
 | none =>
  have hl : l = [] := by
   cases l with
   | nil => rfl
   | cons x l => obtain ⟨ad, e, _⟩ := hr.2.2 (Nat.succ_pos _); cases e
  subst hl
  have hn := fun w : World => Lib.run_eql_slice_nil (P := Try.prog) w 25 3 none 0 c 0 0 Try.underlying25
  clear hr hc hlen
  go_enter Try.func70, Try.ntmps70
  go_wp2
  go_ret
  exact ⟨_, rfl, Kd.R_nil _ _ _ _ _, Below.refl _ _⟩
 | some ad =>
  have HR := Aside0.mk (C_reads hr)
  have hn := fun w : World => Lib.run_eql_slice_nil (P := Try.prog) w 25 3 (some ad) l.length c 0 0 Try.underlying25
  clear hr
  go_enter Try.func70, Try.ntmps70
  go_wp2_with (at_builtin; refine print_append_row (w0 := w) w.heap.size rfl (.tmp 5) (.tmp 6) 25 3 .i64 8 rfl Try.underlying25 info3 (by decide) (.slice (some ⟨w.heap.size, 0, none⟩) 0 0) [] l (some ad) l.length c rfl rfl (empty_own w) (HR.out.below ((Below.refl _ _).alloc (Nat.le_refl _) _)) ((Below.refl _ _).alloc (Nat.le_refl _) _) (by simp) (by simp; omega) ?_; intro v1 w1 ho hb hg hat; rw [List.nil_append] at ho; have HO := Aside0.mk ho; have HB := Aside0.mk hb; clear ho hb hg hat)
  go_ret
  exact ⟨_, rfl, own_R HO.out, HB.out⟩
end
theorem below_grownO {w w1 w2 : World} {row : Option Nat} (h : Below w.heap.size w w1) (hg : w1.grownBy w2 row) (hge : ∀ g, row = some g → w.heap.size ≤ g) : Below w.heap.size w w2 :=
 ⟨hg.os.trans h.os, hg.tape.trans h.tape, hg.output.trans h.output, Nat.le_trans h.size hg.size, fun i hi => (hg.block i (Nat.lt_of_lt_of_le hi h.size) (fun e => by have := hge i e.symm; omega)).trans (h.block i hi)⟩
def minL (k n : Nat) (l : List S44) : Nat → List Int → Option (List Int)
 | 0, left => some left
 | i + 1, left => (followsN k n l (leftB (fun x => x == (i : Int)) left) (rd_T44 l (i : Int))).bind fun b => minL k n l i (if b = true then leftB (fun x => x == (i : Int)) left else left)
theorem minL.mono (n : Nat) (l : List S44) (k : Nat) : ∀ i left, LeO (minL k n l i left) (minL (k + 1) n l i left)
 | 0, left => LeO.refl _
 | i + 1, left => LeO.bind (askL.mono _ _ _ _) fun _ => minL.mono n l k i _
def minS (k n : Nat) (l : List S44) : Option (List Int × Int) := (solvedN k n l).bind fun s => if s.2 = 0 then (minL k n l l.length (upTo l.length)).map fun r => (r, 0) else some ([], s.2)
def graph_Minimal.f (k : Nat) (a0 : Int) (l1 : List S44) : Option (List Int × Int) := if validB a0 l1 = true then if 200 < l1.length then some ([], 2) else minS k a0.toNat l1 else some ([], 4)
theorem graph_Minimal.mono : ∀ a0 l1 k, LeO (graph_Minimal.f k a0 l1) (graph_Minimal.f (k + 1) a0 l1) := fun _ _ _ =>
 LeO.ite (LeO.ite (LeO.refl _) (LeO.bind (solvedN.mono _ _ _) fun _ => LeO.ite (LeO.map _ (minL.mono _ _ _ _ _)) (LeO.refl _))) (LeO.refl _)
end Go.Proofs.Ytegejpcglabhbaa.G
