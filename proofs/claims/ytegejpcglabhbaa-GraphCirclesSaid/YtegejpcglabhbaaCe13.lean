/- A part of this claim's proof: texts of its author, and printed ones, packed by a program of its author's. -/
import Derived.Test.YtegejpcglabhbaaCe11
import Derived.Test.YtegejpcglabhbaaCe12
namespace Go.Proofs.Ytegejpcglabhbaa.G
open Go.RowKit Go.Proofs.YtegejpcglabhbaaW.PrintWords Go.Proofs.YtegejpcglabhbaaW.PrintLast Go.Proofs.YtegejpcglabhbaaW.PrintMore
set_option linter.unusedVariables false
set_option linter.unusedSimpArgs false
theorem w64n (i : Nat) (h : i ≤ 4398046511104) : wrap64 ((i : Int) + 1) = ((i + 1 : Nat) : Int) := by unfold wrap64; omega
theorem rd96 (l : List S96) (i : Nat) (h : i < l.length) : rd_T96 l (i : Int) = l[i] := by
 simp [rd_T96, List.getD_eq_getElem?_getD, List.getElem?_eq_getElem h]
theorem r01_l1 (l : List S96) (c u : Int) (w1 : Int) (x3 : Nat) (hx : x3 ≤ l.length) (hl : l.length ≤ 8) : ∀ (d i k : Nat), d + i = x3 → d < k →
  ((((l.take x3).drop i).any fun x => x.f0 == u) = true ∧ tenetref01_Valid.l1 k (x3 : Int) (i : Int) c l u w1 = some false) ∨
  ((((l.take x3).drop i).any fun x => x.f0 == u) = false ∧ tenetref01_Valid.l1 k (x3 : Int) (i : Int) c l u w1 = tenetref01_Valid.l0 (k - d - 1) ((x3 + 1 : Nat) : Int) c l) := by
 intro d
 induction d with
 | zero =>
  intro i k hd hk
  obtain ⟨k, rfl⟩ : ∃ m, k = m + 1 := ⟨k - 1, by omega⟩
  right
  rw [List.drop_eq_nil_of_le (by rw [List.length_take]; omega)]
  refine ⟨rfl, ?_⟩
  simp only [tenetref01_Valid.l1]
  rw [if_neg (by omega), w64n _ (by omega)]
  rfl
 | succ d ih =>
  intro i k hd hk
  obtain ⟨k, rfl⟩ : ∃ m, k = m + 1 := ⟨k - 1, by omega⟩
  have hi : i < (l.take x3).length := by rw [List.length_take]; omega
  have hil : i < l.length := by omega
  rw [List.drop_eq_getElem_cons hi, List.any_cons, List.getElem_take]
  simp only [tenetref01_Valid.l1]
  rw [if_pos (by omega), if_pos (by omega), if_pos (by omega), rd96 l i hil]
  by_cases h : l[i].f0 = u
  ·left
   rw [if_pos h, beq_iff_eq.mpr h]
   exact ⟨rfl, rfl⟩
  ·rw [if_neg h, beq_eq_false_iff_ne.mpr h, Bool.false_or, w64n _ (by omega), show k + 1 - (d + 1) - 1 = k - d - 1 by omega]
   exact ih (i + 1) k (by omega) (by omega)
theorem r01_l0 (l : List S96) (c : Int) (hl : l.length ≤ 8) : ∀ (d i k : Nat), d + i = l.length → 12 * d + 2 ≤ k → tenetref01_Valid.l0 k (i : Int) c l = some (lvlVars l d i) := by
 intro d
 induction d with
 | zero =>
  intro i k hd hk
  obtain ⟨k, rfl⟩ : ∃ m, k = m + 1 := ⟨k - 1, by omega⟩
  simp only [tenetref01_Valid.l0, lvlVars]
  rw [if_neg (by omega)]
 | succ d ih =>
  intro i k hd hk
  obtain ⟨k, rfl⟩ : ∃ m, k = m + 2 := ⟨k - 2, by omega⟩
  have hil : i < l.length := by omega
  simp only [tenetref01_Valid.l0, lvlVars]
  rw [if_pos (by omega), if_pos (by omega)]
  generalize hr : rd_T96 l (i : Int) = r
  by_cases h1 : r.f0 < 0
  ·rw [if_pos h1, if_pos h1]
   simp only [tenetref01_Valid.j2]
   rw [if_pos trivial]
  rw [if_neg h1, if_neg h1]
  by_cases h2 : 1200 ≤ r.f0
  ·rw [if_pos h2, if_pos h2]
   simp only [tenetref01_Valid.j2]
   rw [if_pos trivial]
  rw [if_neg (show ¬ r.f0 ≥ 1200 from h2), if_neg h2]
  by_cases h3 : r.f1 < 0
  ·rw [if_pos h3, if_pos h3]
   simp only [tenetref01_Valid.j2]
   rw [if_pos trivial]
  rw [if_neg h3, if_neg h3]
  by_cases h4 : 1000 < r.f1
  ·rw [if_pos h4, decide_eq_true (show r.f1 > 1000 from h4)]
   simp only [tenetref01_Valid.j2]
   rw [if_pos trivial]
  rw [if_neg h4, decide_eq_false (show ¬ r.f1 > 1000 from h4)]
  simp only [tenetref01_Valid.j2]
  rw [if_neg (by decide)]
  have hany := idxB_any (fun x : S96 => x.f0 == r.f0) (l.take i) 0
  rcases r01_l1 l c r.f0 r.f1 i (by omega) hl i 0 k (by omega) (by omega) with ⟨ha, he⟩ | ⟨ha, he⟩
  ·rw [List.drop_zero] at ha
   rw [ha] at hany
   rw [if_pos (of_decide_eq_true hany)]
   exact he
  ·rw [List.drop_zero] at ha
   rw [ha] at hany
   rw [if_neg (of_decide_eq_false hany)]
   refine (show tenetref01_Valid.l1 k (i : Int) ((0 : Nat) : Int) c l r.f0 r.f1 = _ from he).trans ?_
   exact ih (i + 1) _ (by omega) (by omega)
theorem r01_valid (l : List S96) (c : Int) (k : Nat) (hk : 200 ≤ k) : tenetref01_Valid.f k c l = some (lvl c l) := by
 obtain ⟨k, rfl⟩ : ∃ m, k = m + 1 := ⟨k - 1, by omega⟩
 unfold tenetref01_Valid.f lvl
 by_cases h1 : c < 0
 ·rw [if_pos h1, if_pos h1]
  simp only [tenetref01_Valid.j0]
  rw [if_pos trivial]
 rw [if_neg h1, if_neg h1]
 by_cases h2 : 1000 < c
 ·rw [if_pos h2, if_pos h2]
  simp only [tenetref01_Valid.j0]
  rw [if_pos trivial]
 rw [if_neg (show ¬ c > 1000 from h2), if_neg h2]
 by_cases h3 : 8 < l.length
 ·rw [if_pos h3, decide_eq_true (show (l.length : Int) > 8 by omega)]
  simp only [tenetref01_Valid.j0]
  rw [if_pos trivial]
 rw [if_neg h3, decide_eq_false (show ¬ (l.length : Int) > 8 by omega)]
 simp only [tenetref01_Valid.j0]
 rw [if_neg (by decide)]
 exact r01_l0 l c (by omega) l.length 0 k (by omega) (by omega)
theorem below_l0 (l : List S96) (n c : Int) (hl : l.length ≤ 1000000) : ∀ (d i k : Nat), d + i = l.length → d < k → tenetref02_below.l0 k n (i : Int) c l = some (belowB n (l.drop i)) := by
 intro d
 induction d with
 | zero =>
  intro i k hd hk
  obtain ⟨k, rfl⟩ : ∃ m, k = m + 1 := ⟨k - 1, by omega⟩
  simp only [tenetref02_below.l0]
  rw [if_neg (by omega), List.drop_eq_nil_of_le (by omega)]
  rfl
 | succ d ih =>
  intro i k hd hk
  obtain ⟨k, rfl⟩ : ∃ m, k = m + 1 := ⟨k - 1, by omega⟩
  have hil : i < l.length := by omega
  simp only [tenetref02_below.l0]
  rw [if_pos (by omega), if_pos (by omega), rd96 l i hil, List.drop_eq_getElem_cons hil]
  show _ = some (decide (l[i].f0 < n) && belowB n (l.drop (i + 1)))
  by_cases h : l[i].f0 ≥ n
  ·rw [if_pos h, decide_eq_false (by omega), Bool.false_and]
  ·rw [if_neg h, decide_eq_true (by omega), Bool.true_and, w64n _ (by omega)]
   exact ih (i + 1) k (by omega) (by omega)
theorem lvl_len {c : Int} {l : List S96} (h : lvl c l = true) : l.length ≤ 8 := (lvl_ok (a := ⟨c, l⟩) h).len
theorem constraint_eq (n : Int) (x : S44) (k : Nat) (hk : 200 ≤ k) : tenetref02_Constraint.f k n x.f0.f0 x.f0.f1 x.f1.f0 x.f1.f1 = some (fitsB n x) := by
 unfold tenetref02_Constraint.f fitsB
 rw [r01_valid _ _ k hk, r01_valid _ _ k hk, Option.bind_some]
 cases h1 : lvl x.f0.f0 x.f0.f1 with
 | false => rfl
 | true =>
  rw [if_pos rfl, Option.bind_some, Bool.true_and]
  cases h2 : lvl x.f1.f0 x.f1.f1 with
  | false => rfl
  | true =>
   rw [if_pos rfl, Bool.true_and]
   have hl1 := lvl_len h1
   have hl2 := lvl_len h2
   have hb1 := below_l0 x.f0.f1 n x.f0.f0 (by omega) x.f0.f1.length 0 k (by omega) (by omega)
   have hb2 := below_l0 x.f1.f1 n x.f1.f0 (by omega) x.f1.f1.length 0 k (by omega) (by omega)
   rw [List.drop_zero] at hb1 hb2
   unfold tenetref02_below.f
   rw [show (0 : Int) = ((0 : Nat) : Int) from rfl, hb1, hb2, Option.bind_some]
   cases h3 : belowB n x.f0.f1 with
   | false => simp
   | true =>
    rw [if_pos rfl, Option.bind_some]
    cases h4 : belowB n x.f1.f1 with
    | false => simp
    | true =>
     rw [if_pos rfl]
     by_cases h5 : x.f1.f1.length = 0
     ·rw [if_pos (by omega)]
      simp [h5]
     ·rw [if_neg (by omega)]
      by_cases h6 : x.f1.f1.length = 1
      ·rw [if_pos (by omega)]
       by_cases h7 : x.f1.f0 = 0
       ·simp [h6, h7]
       ·simp [h6, h7]
      ·rw [if_neg (by omega), decide_eq_false (show ¬ x.f1.f1.length ≤ 1 by omega)]
       rfl
theorem rd44 (l : List S44) (i : Nat) (h : i < l.length) : rd_T44 l (i : Int) = l[i] := by
 simp [rd_T44, List.getD_eq_getElem?_getD, List.getElem?_eq_getElem h]
theorem valid_l0 (n : Int) (l : List S44) (hl : l.length ≤ 3000) : ∀ (d i k : Nat), d + i = l.length → d + 201 ≤ k → tenetref02_Valid.l0 k n l (i : Int) = some ((l.drop i).all (fitsB n)) := by
 intro d
 induction d with
 | zero =>
  intro i k hd hk
  obtain ⟨k, rfl⟩ : ∃ m, k = m + 1 := ⟨k - 1, by omega⟩
  simp only [tenetref02_Valid.l0]
  rw [if_neg (by omega), List.drop_eq_nil_of_le (by omega)]
  rfl
 | succ d ih =>
  intro i k hd hk
  obtain ⟨k, rfl⟩ : ∃ m, k = m + 1 := ⟨k - 1, by omega⟩
  have hil : i < l.length := by omega
  simp only [tenetref02_Valid.l0]
  rw [if_pos (by omega), if_pos (by omega), rd44 l i hil, constraint_eq n l[i] k (by omega), Option.bind_some, List.drop_eq_getElem_cons hil, List.all_cons]
  cases h : fitsB n l[i] with
  | false => rfl
  | true =>
   rw [if_pos rfl, Bool.true_and, w64n _ (by omega)]
   exact ih (i + 1) k (by omega) (by omega)
theorem valid_eq (n : Int) (l : List S44) (k : Nat) (hk : 4000 ≤ k) : tenetref02_Valid.f k n l = some (validB n l) := by
 obtain ⟨k, rfl⟩ : ∃ m, k = m + 1 := ⟨k - 1, by omega⟩
 unfold tenetref02_Valid.f validB
 by_cases h1 : n < 0
 ·rw [if_pos h1, decide_eq_false (by omega)]
  rfl
 rw [if_neg h1, decide_eq_true (show 0 ≤ n by omega), Bool.true_and]
 by_cases h2 : n > 1200
 ·rw [if_pos h2, decide_eq_false (by omega)]
  rfl
 rw [if_neg h2, decide_eq_true (show n ≤ 1200 by omega), Bool.true_and]
 by_cases h3 : 3000 < l.length
 ·rw [decide_eq_true (show (l.length : Int) > 3000 by omega), decide_eq_false (show ¬ l.length ≤ 3000 by omega)]
  rfl
 rw [decide_eq_false (show ¬ (l.length : Int) > 3000 by omega), decide_eq_true (show l.length ≤ 3000 by omega), Bool.true_and]
 simp only [tenetref02_Valid.j0]
 rw [if_neg (by decide)]
 exact valid_l0 n l (by omega) l.length 0 k (by omega) (by omega)
theorem eqints_l0 (l : List Int) (hl : l.length ≤ 1000000) : ∀ (d i k : Nat), d + i = l.length → d < k → tenetref00_EqInts.l0 k l l (i : Int) = some true := by
 intro d
 induction d with
 | zero =>
  intro i k hd hk
  obtain ⟨k, rfl⟩ : ∃ m, k = m + 1 := ⟨k - 1, by omega⟩
  simp only [tenetref00_EqInts.l0]
  rw [if_neg (by omega)]
 | succ d ih =>
  intro i k hd hk
  obtain ⟨k, rfl⟩ : ∃ m, k = m + 1 := ⟨k - 1, by omega⟩
  simp only [tenetref00_EqInts.l0]
  rw [if_pos (by omega), if_pos (by omega), if_pos (by omega), if_pos trivial, w64n _ (by omega)]
  exact ih (i + 1) k (by omega) (by omega)
theorem eqints_eq (l : List Int) (hl : l.length ≤ 1000000) (k : Nat) (hk : l.length + 1 ≤ k) : tenetref00_EqInts.f k l l = some true := by
 unfold tenetref00_EqInts.f
 rw [if_pos rfl]
 exact eqints_l0 l hl l.length 0 k (by omega) (by omega)
theorem foldl_get (l : List S105) : ∀ (rows : List (List S105)) (v : Nat), v < rows.length → (∀ a ∈ l, 0 ≤ a.f0 ∧ a.f0.toNat < rows.length) → (l.foldl addArc rows).getD v [] = rows.getD v [] ++ l.filter fun a => decide (a.f0 = (v : Int)) := by
 induction l with
 | nil => intro rows v hv _; simp
 | cons a l ih =>
  intro rows v hv h
  have ha := h a List.mem_cons_self
  rw [List.foldl_cons, ih (addArc rows a) v (by rw [addArc_length]; exact hv) (fun b hb => by rw [addArc_length]; exact h b (List.mem_cons_of_mem _ hb))]
  unfold addArc
  rw [gset _ _ _ _ _ ha.2, List.filter_cons]
  by_cases e : v = a.f0.toNat
  ·rw [if_pos e, if_pos (by simp; omega), e, List.append_assoc]
   rfl
  ·rw [if_neg e, if_neg (by simp; omega)]
theorem rows_mem {n : Nat} {E : List S105} (hE : ArcsOk n E) : ∀ v, v ≤ n → ∀ a, a ∈ (rowsOf (n + 1) E).getD v [] ↔ (a ∈ E ∧ a.f0 = (v : Int)) := by
 intro v hv a
 unfold rowsOf
 rw [foldl_get E _ v (by rw [List.length_replicate]; omega) (fun b hb => by have := hE b hb; rw [List.length_replicate]; omega), gets_rep, List.nil_append, List.mem_filter]
 simp
theorem sys_arcs {n : Nat} {l : List S44} (hs : SysOk n l) {which : List Int} (hw : Which l which) : ArcsOk n (allArcs n l which) := fun a ha => by
 have := allArcs_mem hs.fit hw ha
 refine ⟨this.1, this.2.1, this.2.2.1, this.2.2.2.1, this.2.2.2.2.1, this.2.2.2.2.2.1, ?_⟩
 rcases this.2.2.2.2.2.2 with h | h
 ·omega
 ·have := hw _ h; omega
theorem sys_len {n : Nat} {l : List S44} (hs : SysOk n l) {which : List Int} (hw : Which l which) (h3 : which.length ≤ 3000) : (allArcs n l which).length ≤ 100000 := by
 have h1 := flat_len (fun i => arcsOf n i (rd_T44 l i)) 9 which (fun y hy => by
  have := hw y hy
  exact (arcs_len (hs.fit _ (mem_rd44 this.1 this.2))).1)
 have h2 : (natArcs n).length = n := by simp [natArcs]
 have := hs.n1
 unfold allArcs
 rw [List.length_append]
 omega
theorem search_spec {n : Nat} {l : List S44} (hs : SysOk n l) {which : List Int} (hw : Which l which) {s : Nat} (hsn : s ≤ n) : ∃ R, Ev (fun k => search k n l which (s : Int)) R ∧ FarPost n s (allArcs n l which) R :=
 far_spec hs.n1 (sys_arcs hs hw) hsn _ (rows_mem (sys_arcs hs hw))
theorem nat_mem {n v : Nat} (hv : v < n) (l : List S44) (which : List Int) : natArc n v ∈ allArcs n l which := List.mem_append_left _ (List.mem_map.2 ⟨v, List.mem_range.2 hv, rfl⟩)
theorem all_known {n : Nat} {l : List S44} {which : List Int} {is : Nat → Bool} {d : Nat → Int} (h : Closed (allArcs n l which) n is d) : ∀ v, v ≤ n → is v = true := by
 intro v hv
 by_cases e : v = n
 ·rw [e]; exact h.start
 ·have h1 := h.arc _ (nat_mem (by omega : v < n) l which) (by show is (n : Int).toNat = true; rw [Int.toNat_natCast]; exact h.start)
  have h2 := h1.1
  simpa [natArc] using h2
end Go.Proofs.Ytegejpcglabhbaa.G
