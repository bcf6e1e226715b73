/- Plain law: what the reference solves. -/
import Derived.Test.YtegejpcglabhbaaGNn
import Derived.Test.YtegejpcglabhbaaGNq
import Derived.Test.YtegejpcglabhbaaGf23
namespace Go.Proofs.Ytegejpcglabhbaa.G
open Go.RowKit Go.Proofs.YtegejpcglabhbaaW.PrintWords Go.Proofs.YtegejpcglabhbaaW.PrintLast Go.Proofs.YtegejpcglabhbaaW.PrintMore
set_option linter.unusedVariables false
set_option linter.unusedSimpArgs false

theorem w64s {z : Int} (h1 : -4000000 ≤ z) (h2 : z ≤ 4000000000) : wrap64 z = z := wrap_small h1 h2
theorem parts_l0 (l : List S96) (c b0 : Int) (b1 : List S96) (tt off : Int) (hl : l.length ≤ 8) (hv : ∀ v ∈ l, 0 ≤ v.f1 ∧ v.f1 ≤ 1000) (ho : 0 ≤ off ∧ off ≤ 1000) : ∀ (d i k : Nat) (acc : List S108), d + i = l.length → d < k → acc.length + d ≤ 1000000 →
    tenetref02_parts.l0 k acc tt off (i : Int) c l b0 b1 = some (acc ++ (l.drop i).map fun v => ⟨v.f0, tt, v.f1 - off⟩) := by
  intro d
  induction d with
  | zero =>
    intro i k acc hd hk ha
    obtain ⟨k, rfl⟩ : ∃ m, k = m + 1 := ⟨k - 1, by omega⟩
    simp only [tenetref02_parts.l0]
    rw [if_neg (by omega), List.drop_eq_nil_of_le (by omega)]
    simp
  | succ d ih =>
    intro i k acc hd hk ha
    obtain ⟨k, rfl⟩ : ∃ m, k = m + 1 := ⟨k - 1, by omega⟩
    have hil : i < l.length := by omega
    have h := hv l[i] (List.getElem_mem hil)
    simp only [tenetref02_parts.l0]
    rw [if_pos (by omega), if_pos (by omega), if_pos (by omega), rd96 l i hil, w64n _ (by omega), w64s (by omega) (by omega)]
    refine (ih (i + 1) k _ (by omega) (by omega) (by simp; omega)).trans ?_
    rw [List.drop_eq_getElem_cons hil, List.append_assoc]
    rfl
theorem parts_eq (n i : Int) (c : S44) (h : FitOk n c) (hn : 0 ≤ n) (k : Nat) (hk : 11 ≤ k) (acc : List S108) (ha : acc.length ≤ 900000) : tenetref02_parts.f k n c.f0.f0 c.f0.f1 c.f1.f0 c.f1.f1 acc = some (acc ++ (arcsOf n i c).map toE) := by
  have hb := bnd_ok h hn
  obtain ⟨k, rfl⟩ : ∃ m, k = m + 1 := ⟨k - 1, by omega⟩
  have key : ∀ (tt off : Int), 0 ≤ off → off ≤ 1000 → tenetref02_parts.j0 (k + 1) n acc tt off c.f0.f0 c.f0.f1 c.f1.f0 c.f1.f1 = some (acc ++ (⟨n, tt, c.f0.f0 - off⟩ :: c.f0.f1.map fun v => (⟨v.f0, tt, v.f1 - off⟩ : S108))) := by
    intro tt off h1 h2
    have h3 := h.a.c0
    have h4 := h.a.c1
    simp only [tenetref02_parts.j0]
    rw [if_pos (by omega), w64s (by omega) (by omega)]
    refine (parts_l0 c.f0.f1 c.f0.f0 c.f1.f0 c.f1.f1 tt off h.a.len (fun v hv => by have := h.a.var v hv; omega) ⟨h1, h2⟩ c.f0.f1.length 0 k _ (by omega) (by have := h.a.len; omega) (by have := h.a.len; simp; omega)).trans ?_
    rw [List.drop_zero, List.append_assoc]
    rfl
  have hm : (arcsOf n i c).map toE = (⟨n, (bndOf n c.f1).1, c.f0.f0 - (bndOf n c.f1).2⟩ :: c.f0.f1.map fun v => (⟨v.f0, (bndOf n c.f1).1, v.f1 - (bndOf n c.f1).2⟩ : S108)) := by
    simp [arcsOf, toE, Function.comp_def]
  rw [hm]
  unfold tenetref02_parts.f
  unfold bndOf at hb ⊢
  by_cases e : c.f1.f1.length = 1
  · rw [if_pos e] at hb ⊢
    rw [if_pos (by omega), if_pos (by omega)]
    exact key _ _ hb.2.2.1 hb.2.2.2
  · rw [if_neg e] at hb ⊢
    rw [if_neg (by omega)]
    exact key _ _ hb.2.2.1 hb.2.2.2
theorem edges_l1 (n : Nat) (l : List S44) (hs : SysOk n l) : ∀ (d i k : Nat) (acc : List S108), d + i = l.length → d + 12 ≤ k → acc.length + 9 * d ≤ 900000 →
    tenetref02_edges.l1 k (n : Int) l acc (i : Int) = some (acc ++ (((upTo l.length).drop i).flatMap fun i => arcsOf n i (rd_T44 l i)).map toE) := by
  intro d
  induction d with
  | zero =>
    intro i k acc hd hk ha
    obtain ⟨k, rfl⟩ : ∃ m, k = m + 1 := ⟨k - 1, by omega⟩
    simp only [tenetref02_edges.l1]
    rw [if_neg (by omega), List.drop_eq_nil_of_le (by rw [upTo_length]; omega)]
    simp
  | succ d ih =>
    intro i k acc hd hk ha
    obtain ⟨k, rfl⟩ : ∃ m, k = m + 1 := ⟨k - 1, by omega⟩
    have hil : i < l.length := by omega
    have hfit := hs.fit l[i] (List.getElem_mem hil)
    have hlen := (arcs_len (n := (n : Int)) (i := (i : Int)) hfit).1
    have hs3 := hs.len
    simp only [tenetref02_edges.l1]
    rw [if_pos (by omega), if_pos (by omega), rd44 l i hil, parts_eq n i l[i] hfit (by omega) k (by omega) acc (by omega), Option.bind_some, w64n _ (by omega)]
    refine (ih (i + 1) k _ (by omega) (by omega) (by simp; omega)).trans ?_
    have hdr : (upTo l.length).drop i = (i : Int) :: (upTo l.length).drop (i + 1) := by
      rw [List.drop_eq_getElem_cons (by rw [upTo_length]; exact hil)]
      simp [upTo]
    rw [hdr, List.flatMap_cons, List.map_append, rd44 l i hil, List.append_assoc]
theorem edges_l0 (n : Nat) (l : List S44) (hs : SysOk n l) : ∀ (d v k : Nat), d + v = n → d + 3100 ≤ k →
    tenetref02_edges.l0 k (n : Int) l (((List.range v).map (natArc n)).map toE) (v : Int) = some ((allArcs n l (upTo l.length)).map toE) := by
  intro d
  induction d with
  | zero =>
    intro v k hd hk
    obtain ⟨k, rfl⟩ : ∃ m, k = m + 1 := ⟨k - 1, by omega⟩
    have h1 := hs.n1
    have h2 := hs.len
    simp only [tenetref02_edges.l0]
    rw [if_neg (by omega)]
    refine (edges_l1 n l hs l.length 0 k _ (by omega) (by omega) (by simp; omega)).trans ?_
    rw [List.drop_zero, ← List.map_append, show v = n by omega]
    rfl
  | succ d ih =>
    intro v k hd hk
    obtain ⟨k, rfl⟩ : ∃ m, k = m + 1 := ⟨k - 1, by omega⟩
    have h1 := hs.n1
    simp only [tenetref02_edges.l0]
    rw [if_pos (by omega), if_pos (by simp; omega), w64n _ (by omega)]
    have := ih (v + 1) k (by omega) (by omega)
    rw [List.range_succ, List.map_append, List.map_append] at this
    exact this
theorem edges_eq (n : Nat) (l : List S44) (hs : SysOk n l) (k : Nat) (hk : 5000 ≤ k) : tenetref02_edges.f k (n : Int) l = some ((allArcs n l (upTo l.length)).map toE) := by
  have h1 := hs.n1
  exact edges_l0 n l hs n 0 k (by omega) (by omega)
/-! ### solve -/
theorem solve_l0 (n : Nat) (hn : n ≤ 1200) (r : List S94) (hr : n < r.length) : ∀ (d i k : Nat), d + i = n → d < k →
    tenetref02_solve.l0 k (n : Int) r ((List.range i).map (dR r) ++ List.replicate (n - i) 0) (i : Int) = some ((List.range n).map (dR r), true) := by
  intro d
  induction d with
  | zero =>
    intro i k hd hk
    obtain ⟨k, rfl⟩ : ∃ m, k = m + 1 := ⟨k - 1, by omega⟩
    simp only [tenetref02_solve.l0]
    rw [if_neg (by omega), show i = n by omega, Nat.sub_self]
    simp
  | succ d ih =>
    intro i k hd hk
    obtain ⟨k, rfl⟩ : ∃ m, k = m + 1 := ⟨k - 1, by omega⟩
    simp only [tenetref02_solve.l0]
    rw [if_pos (by omega), if_pos (by omega), if_pos (by omega), if_pos (by simp; omega), w64n _ (by omega)]
    have hset : ((List.range i).map (dR r) ++ List.replicate (n - i) 0).set (i : Int).toNat (rd_T94 r i).f1 = (List.range (i + 1)).map (dR r) ++ List.replicate (n - (i + 1)) 0 := by
      rw [Int.toNat_natCast, show n - i = (n - (i + 1)) + 1 by omega, List.replicate_succ, List.set_append_right _ _ (by simp), List.length_map, List.length_range, Nat.sub_self, List.set_cons_zero, List.range_succ, List.map_append, List.append_assoc]
      rfl
    rw [hset]
    exact ih (i + 1) k (by omega) (by omega)
theorem range_sum (n : Nat) (st : FSt) (hl : st.sum.length = n + 1) : st.sum.take n = (List.range n).map (sm st) := by
  apply List.ext_getElem
  · simp [hl]
  · intro i h1 h2
    have hi : i < n := by simpa using h2
    simp [sm, List.getD_eq_getElem?_getD, List.getElem?_eq_getElem (show i < st.sum.length by omega)]
/-- What the reference solves, and what the program does. -/
theorem ref_solve {n : Nat} {l : List S44} (hs : SysOk n l) {R : FRes} (hR : FarPost n n (allArcs n l (upTo l.length)) R) (k : Nat) (hk : 6000 ≤ k) :
    match R with
    | .loop _ => tenetref02_solve.f k (n : Int) l = some ([], false)
    | .done st => tenetref02_solve.f k (n : Int) l = some (st.sum.take n, true) := by
  have hw := which_upTo l
  have hE := sys_arcs hs hw
  have hn := hs.n1
  have href := ref_longest hn hE (Nat.le_refl n) (sys_len hs hw (by rw [upTo_length]; exact hs.len)) R hR
  obtain ⟨k, rfl⟩ : ∃ m, k = m + 1 := ⟨k - 1, by omega⟩
  have hlong : tenetref02_longest.f (k + 1) (n : Int) ((allArcs n l (upTo l.length)).map toE) (n : Int) = some (lrounds ((allArcs n l (upTo l.length)).map toE) (n + 2) (outInit n n)) := by
    have hok : edgesOk (n : Int).toNat ((allArcs n l (upTo l.length)).map toE) := by
      intro e he
      obtain ⟨a, ha, rfl⟩ := List.mem_map.1 he
      have := hE a ha
      rw [Int.toNat_natCast]
      simp only [toE]
      omega
    unfold tenetref02_longest.f
    rw [if_pos ⟨by omega, by omega, by omega, by omega, hok⟩, Int.toNat_natCast]
    rfl
  cases R with
  | loop lp =>
    show tenetref02_solve.f (k + 1) (n : Int) l = some ([], false)
    have href2 : lrounds ((allArcs n l (upTo l.length)).map toE) (n + 2) (outInit n n) = ([], false) := href
    unfold tenetref02_solve.f
    rw [edges_eq n l hs (k + 1) (by omega), Option.bind_some, hlong, href2, Option.bind_some]
    rfl
  | done st =>
    show tenetref02_solve.f (k + 1) (n : Int) l = some (st.sum.take n, true)
    obtain ⟨hlg, out, ho, hol, hov⟩ := href
    have hkn := all_known hlg.closed
    have hls : st.sum.length = n + 1 := by obtain ⟨P, tm, T, hh⟩ := hR; exact hh.core.len.sum
    unfold tenetref02_solve.f
    rw [edges_eq n l hs (k + 1) (by omega), Option.bind_some, hlong, ho, Option.bind_some]
    dsimp only
    rw [if_pos rfl, if_pos (by omega), if_pos (by omega)]
    have h0 : (rd_T94 out (n : Int)).f1 = 0 := by
      have := (hov n (Nat.le_refl _)).2
      rw [if_pos (hkn n (Nat.le_refl _)), hlg.zero] at this
      exact this
    rw [h0, decide_eq_false (by decide)]
    simp only [tenetref02_solve.j0]
    rw [if_neg (by decide), if_pos (by omega), if_pos (by rw [Int.toNat_natCast]; omega), Int.toNat_natCast]
    have h1 := solve_l0 n hn out (by omega) n 0 k (by omega) (by omega)
    simp only [List.range_zero, List.map_nil, List.nil_append, Nat.sub_zero] at h1
    refine (show _ = _ from h1).trans ?_
    rw [range_sum n st hls]
    congr 2
    refine List.map_congr_left fun v hv => ?_
    have hv2 := List.mem_range.1 hv
    have := (hov v (by omega)).2
    rw [if_pos (hkn v (by omega))] at this
    exact this
/-- Both solve alike. -/
theorem both_solve (n : Int) (l : List S44) (hv : validB n l = true) : ∃ r : List Int × Int, (r.1.length ≤ 1200) ∧ Ev (fun k => graph_Solve.f k n l) r ∧ Ev (fun k => tenetref02_Solve.f k n l) r := by
  obtain ⟨m, rfl, hs⟩ := valid_ok hv
  obtain ⟨R, ⟨N, hN⟩, hR⟩ := search_spec hs (which_upTo l) (Nat.le_refl m)
  refine ⟨solvedOf m R, ?_, ⟨N, fun k hk => ?_⟩, ⟨6000, fun k hk => ?_⟩⟩
  · cases R with
    | loop lp => simp [solvedOf]
    | done st => simp only [solvedOf, List.length_take]; have := hs.n1; omega
  · show graph_Solve.f k (m : Int) l = _
    unfold graph_Solve.f
    rw [if_pos hv, Int.toNat_natCast]
    unfold solvedN
    rw [show search k m l (upTo l.length) (m : Int) = some R from hN k hk]
    rfl
  · have h := ref_solve hs hR k (by omega)
    show tenetref02_Solve.f k (m : Int) l = _
    unfold tenetref02_Solve.f
    rw [valid_eq _ l k (by omega), Option.bind_some, hv, if_pos rfl]
    cases R with
    | loop lp =>
      have h2 : tenetref02_solve.f k (m : Int) l = some ([], false) := h
      rw [h2]
      rfl
    | done st =>
      have h2 : tenetref02_solve.f k (m : Int) l = some (st.sum.take m, true) := h
      rw [h2]
      rfl
end Go.Proofs.Ytegejpcglabhbaa.G
