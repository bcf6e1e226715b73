/- Plain law: what the reference's functions come to, beside the program's. -/
import Derived.Test.YtegejpcglabhbaaGMs
import Derived.Test.YtegejpcglabhbaaGf23
import Derived.Test.YtegejpcglabhbaaGf20
import Derived.Test.YtegejpcglabhbaaGf26
namespace Go.Proofs.Ytegejpcglabhbaa.G
open Go.RowKit Go.Proofs.YtegejpcglabhbaaW.PrintWords Go.Proofs.YtegejpcglabhbaaW.PrintLast Go.Proofs.YtegejpcglabhbaaW.PrintMore
set_option linter.unusedVariables false
set_option linter.unusedSimpArgs false

theorem w64n (i : Nat) (h : i ≤ 4398046511104) : wrap64 ((i : Int) + 1) = ((i + 1 : Nat) : Int) := by unfold wrap64; omega
theorem rd96 (l : List S96) (i : Nat) (h : i < l.length) : rd_T96 l (i : Int) = l[i] := by
  simp [rd_T96, List.getD_eq_getElem?_getD, List.getElem?_eq_getElem h]
theorem take96 {l : List S96} {i : Nat} (h : i < l.length) : l.take (i + 1) = l.take i ++ [l[i]] := List.take_succ_eq_append_getElem h
theorem r01_l1 (l : List S96) (c u : Int) (w1 : Int) (x3 : Nat) (hx : x3 ≤ l.length) (hl : l.length ≤ 8) : ∀ (d i k : Nat), d + i = x3 → d < k →
    ((((l.take x3).drop i).any fun x => x.f0 == u) = true ∧ tenetref01_Valid.l1 k (x3 : Int) (i : Int) c l u w1 = some false) ∨
    ((((l.take x3).drop i).any fun x => x.f0 == u) = false ∧ tenetref01_Valid.l1 k (x3 : Int) (i : Int) c l u w1 = tenetref01_Valid.l0 (k - d - 1) ((x3 + 1 : Nat) : Int) c l) := by
  intro d
  induction d with
  | zero =>
    intro i k hd hk
    obtain ⟨k, rfl⟩ : ∃ m, k = m + 1 := ⟨k - 1, by omega⟩
    right
    rw [List.drop_eq_nil_of_le (by rw [List.length_take]; omega)]
    refine ⟨rfl, ?_⟩
    simp only [tenetref01_Valid.l1]
    rw [if_neg (by omega), w64n _ (by omega)]
    rfl
  | succ d ih =>
    intro i k hd hk
    obtain ⟨k, rfl⟩ : ∃ m, k = m + 1 := ⟨k - 1, by omega⟩
    have hi : i < (l.take x3).length := by rw [List.length_take]; omega
    have hil : i < l.length := by omega
    rw [List.drop_eq_getElem_cons hi, List.any_cons, List.getElem_take]
    simp only [tenetref01_Valid.l1]
    rw [if_pos (by omega), if_pos (by omega), if_pos (by omega), rd96 l i hil]
    by_cases h : l[i].f0 = u
    · left
      rw [if_pos h, beq_iff_eq.mpr h]
      exact ⟨rfl, rfl⟩
    · rw [if_neg h, beq_eq_false_iff_ne.mpr h, Bool.false_or, w64n _ (by omega), show k + 1 - (d + 1) - 1 = k - d - 1 by omega]
      exact ih (i + 1) k (by omega) (by omega)
theorem r01_l0 (l : List S96) (c : Int) (hl : l.length ≤ 8) : ∀ (d i k : Nat), d + i = l.length → 12 * d + 2 ≤ k → tenetref01_Valid.l0 k (i : Int) c l = some (lvlVars l d i) := by
  intro d
  induction d with
  | zero =>
    intro i k hd hk
    obtain ⟨k, rfl⟩ : ∃ m, k = m + 1 := ⟨k - 1, by omega⟩
    simp only [tenetref01_Valid.l0, lvlVars]
    rw [if_neg (by omega)]
  | succ d ih =>
    intro i k hd hk
    obtain ⟨k, rfl⟩ : ∃ m, k = m + 2 := ⟨k - 2, by omega⟩
    have hil : i < l.length := by omega
    simp only [tenetref01_Valid.l0, lvlVars]
    rw [if_pos (by omega), if_pos (by omega)]
    generalize hr : rd_T96 l (i : Int) = r
    by_cases h1 : r.f0 < 0
    · rw [if_pos h1, if_pos h1]
      simp only [tenetref01_Valid.j2]
      rw [if_pos trivial]
    rw [if_neg h1, if_neg h1]
    by_cases h2 : 1200 ≤ r.f0
    · rw [if_pos h2, if_pos h2]
      simp only [tenetref01_Valid.j2]
      rw [if_pos trivial]
    rw [if_neg (show ¬ r.f0 ≥ 1200 from h2), if_neg h2]
    by_cases h3 : r.f1 < 0
    · rw [if_pos h3, if_pos h3]
      simp only [tenetref01_Valid.j2]
      rw [if_pos trivial]
    rw [if_neg h3, if_neg h3]
    by_cases h4 : 1000 < r.f1
    · rw [if_pos h4, decide_eq_true (show r.f1 > 1000 from h4)]
      simp only [tenetref01_Valid.j2]
      rw [if_pos trivial]
    rw [if_neg h4, decide_eq_false (show ¬ r.f1 > 1000 from h4)]
    simp only [tenetref01_Valid.j2]
    rw [if_neg (by decide)]
    have hany := idxB_any (fun x : S96 => x.f0 == r.f0) (l.take i) 0
    rcases r01_l1 l c r.f0 r.f1 i (by omega) hl i 0 k (by omega) (by omega) with ⟨ha, he⟩ | ⟨ha, he⟩
    · rw [List.drop_zero] at ha
      rw [ha] at hany
      rw [if_pos (of_decide_eq_true hany)]
      exact he
    · rw [List.drop_zero] at ha
      rw [ha] at hany
      rw [if_neg (of_decide_eq_false hany)]
      refine (show tenetref01_Valid.l1 k (i : Int) ((0 : Nat) : Int) c l r.f0 r.f1 = _ from he).trans ?_
      exact ih (i + 1) _ (by omega) (by omega)
theorem r01_valid (l : List S96) (c : Int) (k : Nat) (hk : 200 ≤ k) : tenetref01_Valid.f k c l = some (lvl c l) := by
  obtain ⟨k, rfl⟩ : ∃ m, k = m + 1 := ⟨k - 1, by omega⟩
  unfold tenetref01_Valid.f lvl
  by_cases h1 : c < 0
  · rw [if_pos h1, if_pos h1]
    simp only [tenetref01_Valid.j0]
    rw [if_pos trivial]
  rw [if_neg h1, if_neg h1]
  by_cases h2 : 1000 < c
  · rw [if_pos h2, if_pos h2]
    simp only [tenetref01_Valid.j0]
    rw [if_pos trivial]
  rw [if_neg (show ¬ c > 1000 from h2), if_neg h2]
  by_cases h3 : 8 < l.length
  · rw [if_pos h3, decide_eq_true (show (l.length : Int) > 8 by omega)]
    simp only [tenetref01_Valid.j0]
    rw [if_pos trivial]
  rw [if_neg h3, decide_eq_false (show ¬ (l.length : Int) > 8 by omega)]
  simp only [tenetref01_Valid.j0]
  rw [if_neg (by decide)]
  exact r01_l0 l c (by omega) l.length 0 k (by omega) (by omega)
theorem below_l0 (l : List S96) (n c : Int) (hl : l.length ≤ 1000000) : ∀ (d i k : Nat), d + i = l.length → d < k → tenetref02_below.l0 k n (i : Int) c l = some (belowB n (l.drop i)) := by
  intro d
  induction d with
  | zero =>
    intro i k hd hk
    obtain ⟨k, rfl⟩ : ∃ m, k = m + 1 := ⟨k - 1, by omega⟩
    simp only [tenetref02_below.l0]
    rw [if_neg (by omega), List.drop_eq_nil_of_le (by omega)]
    rfl
  | succ d ih =>
    intro i k hd hk
    obtain ⟨k, rfl⟩ : ∃ m, k = m + 1 := ⟨k - 1, by omega⟩
    have hil : i < l.length := by omega
    simp only [tenetref02_below.l0]
    rw [if_pos (by omega), if_pos (by omega), rd96 l i hil, List.drop_eq_getElem_cons hil]
    show _ = some (decide (l[i].f0 < n) && belowB n (l.drop (i + 1)))
    by_cases h : l[i].f0 ≥ n
    · rw [if_pos h, decide_eq_false (by omega), Bool.false_and]
    · rw [if_neg h, decide_eq_true (by omega), Bool.true_and, w64n _ (by omega)]
      exact ih (i + 1) k (by omega) (by omega)
theorem lvl_len {c : Int} {l : List S96} (h : lvl c l = true) : l.length ≤ 8 := (lvl_ok (a := ⟨c, l⟩) h).len
theorem constraint_eq (n : Int) (x : S44) (k : Nat) (hk : 200 ≤ k) : tenetref02_Constraint.f k n x.f0.f0 x.f0.f1 x.f1.f0 x.f1.f1 = some (fitsB n x) := by
  unfold tenetref02_Constraint.f fitsB
  rw [r01_valid _ _ k hk, r01_valid _ _ k hk, Option.bind_some]
  cases h1 : lvl x.f0.f0 x.f0.f1 with
  | false => rfl
  | true =>
    rw [if_pos rfl, Option.bind_some, Bool.true_and]
    cases h2 : lvl x.f1.f0 x.f1.f1 with
    | false => rfl
    | true =>
      rw [if_pos rfl, Bool.true_and]
      have hl1 := lvl_len h1
      have hl2 := lvl_len h2
      have hb1 := below_l0 x.f0.f1 n x.f0.f0 (by omega) x.f0.f1.length 0 k (by omega) (by omega)
      have hb2 := below_l0 x.f1.f1 n x.f1.f0 (by omega) x.f1.f1.length 0 k (by omega) (by omega)
      rw [List.drop_zero] at hb1 hb2
      unfold tenetref02_below.f
      rw [show (0 : Int) = ((0 : Nat) : Int) from rfl, hb1, hb2, Option.bind_some]
      cases h3 : belowB n x.f0.f1 with
      | false => simp
      | true =>
        rw [if_pos rfl, Option.bind_some]
        cases h4 : belowB n x.f1.f1 with
        | false => simp
        | true =>
          rw [if_pos rfl]
          by_cases h5 : x.f1.f1.length = 0
          · rw [if_pos (by omega)]
            simp [h5]
          · rw [if_neg (by omega)]
            by_cases h6 : x.f1.f1.length = 1
            · rw [if_pos (by omega)]
              by_cases h7 : x.f1.f0 = 0
              · simp [h6, h7]
              · simp [h6, h7]
            · rw [if_neg (by omega), decide_eq_false (show ¬ x.f1.f1.length ≤ 1 by omega)]
              rfl
theorem rd44 (l : List S44) (i : Nat) (h : i < l.length) : rd_T44 l (i : Int) = l[i] := by
  simp [rd_T44, List.getD_eq_getElem?_getD, List.getElem?_eq_getElem h]
theorem valid_l0 (n : Int) (l : List S44) (hl : l.length ≤ 3000) : ∀ (d i k : Nat), d + i = l.length → d + 201 ≤ k → tenetref02_Valid.l0 k n l (i : Int) = some ((l.drop i).all (fitsB n)) := by
  intro d
  induction d with
  | zero =>
    intro i k hd hk
    obtain ⟨k, rfl⟩ : ∃ m, k = m + 1 := ⟨k - 1, by omega⟩
    simp only [tenetref02_Valid.l0]
    rw [if_neg (by omega), List.drop_eq_nil_of_le (by omega)]
    rfl
  | succ d ih =>
    intro i k hd hk
    obtain ⟨k, rfl⟩ : ∃ m, k = m + 1 := ⟨k - 1, by omega⟩
    have hil : i < l.length := by omega
    simp only [tenetref02_Valid.l0]
    rw [if_pos (by omega), if_pos (by omega), rd44 l i hil, constraint_eq n l[i] k (by omega), Option.bind_some, List.drop_eq_getElem_cons hil, List.all_cons]
    cases h : fitsB n l[i] with
    | false => rfl
    | true =>
      rw [if_pos rfl, Bool.true_and, w64n _ (by omega)]
      exact ih (i + 1) k (by omega) (by omega)
theorem valid_eq (n : Int) (l : List S44) (k : Nat) (hk : 4000 ≤ k) : tenetref02_Valid.f k n l = some (validB n l) := by
  obtain ⟨k, rfl⟩ : ∃ m, k = m + 1 := ⟨k - 1, by omega⟩
  unfold tenetref02_Valid.f validB
  by_cases h1 : n < 0
  · rw [if_pos h1, decide_eq_false (by omega)]
    rfl
  rw [if_neg h1, decide_eq_true (show 0 ≤ n by omega), Bool.true_and]
  by_cases h2 : n > 1200
  · rw [if_pos h2, decide_eq_false (by omega)]
    rfl
  rw [if_neg h2, decide_eq_true (show n ≤ 1200 by omega), Bool.true_and]
  by_cases h3 : 3000 < l.length
  · rw [decide_eq_true (show (l.length : Int) > 3000 by omega), decide_eq_false (show ¬ l.length ≤ 3000 by omega)]
    rfl
  rw [decide_eq_false (show ¬ (l.length : Int) > 3000 by omega), decide_eq_true (show l.length ≤ 3000 by omega), Bool.true_and]
  simp only [tenetref02_Valid.j0]
  rw [if_neg (by decide)]
  exact valid_l0 n l (by omega) l.length 0 k (by omega) (by omega)
theorem eqints_l0 (l : List Int) (hl : l.length ≤ 1000000) : ∀ (d i k : Nat), d + i = l.length → d < k → tenetref00_EqInts.l0 k l l (i : Int) = some true := by
  intro d
  induction d with
  | zero =>
    intro i k hd hk
    obtain ⟨k, rfl⟩ : ∃ m, k = m + 1 := ⟨k - 1, by omega⟩
    simp only [tenetref00_EqInts.l0]
    rw [if_neg (by omega)]
  | succ d ih =>
    intro i k hd hk
    obtain ⟨k, rfl⟩ : ∃ m, k = m + 1 := ⟨k - 1, by omega⟩
    simp only [tenetref00_EqInts.l0]
    rw [if_pos (by omega), if_pos (by omega), if_pos (by omega), if_pos trivial, w64n _ (by omega)]
    exact ih (i + 1) k (by omega) (by omega)
theorem eqints_eq (l : List Int) (hl : l.length ≤ 1000000) (k : Nat) (hk : l.length + 1 ≤ k) : tenetref00_EqInts.f k l l = some true := by
  unfold tenetref00_EqInts.f
  rw [if_pos rfl]
  exact eqints_l0 l hl l.length 0 k (by omega) (by omega)
theorem heavy_l0 (l : List S44) (hl : l.length ≤ 1000000) : ∀ (d i k : Nat), d + i = l.length → d < k → ∃ b, tenetlaw02_heavy.l0 k l (i : Int) = some b := by
  intro d
  induction d with
  | zero =>
    intro i k hd hk
    obtain ⟨k, rfl⟩ : ∃ m, k = m + 1 := ⟨k - 1, by omega⟩
    simp only [tenetlaw02_heavy.l0]
    rw [if_neg (by omega)]
    exact ⟨_, rfl⟩
  | succ d ih =>
    intro i k hd hk
    obtain ⟨k, rfl⟩ : ∃ m, k = m + 1 := ⟨k - 1, by omega⟩
    simp only [tenetlaw02_heavy.l0]
    rw [if_pos (by omega), if_pos (by omega), w64n _ (by omega)]
    split
    · exact ⟨_, rfl⟩
    · split
      · exact ⟨_, rfl⟩
      · exact ih (i + 1) k (by omega) (by omega)
/-- heavy answers; where it is false, the numbers are small. -/
theorem heavy_eq (n : Int) (l : List S44) (m : Int) (hm : m ≤ 1000) (k : Nat) (hk : 1002 ≤ k) : tenetlaw02_heavy.f k n l m = some true ∨ (n ≤ m ∧ (l.length : Int) ≤ m ∧ tenetlaw02_heavy.f k n l m = some false) := by
  obtain ⟨k, rfl⟩ : ∃ j, k = j + 1 := ⟨k - 1, by omega⟩
  unfold tenetlaw02_heavy.f
  by_cases h1 : n > m
  · left
    rw [if_pos h1]
    rfl
  · rw [if_neg h1]
    by_cases h2 : (l.length : Int) > m
    · left
      rw [decide_eq_true h2]
      rfl
    · rw [decide_eq_false h2]
      simp only [tenetlaw02_heavy.j0]
      rw [if_neg (by decide)]
      obtain ⟨b, hb⟩ := heavy_l0 l (by omega) l.length 0 k (by omega) (by omega)
      have hb2 : tenetlaw02_heavy.l0 k l 0 = some b := hb
      rw [hb2]
      cases b with
      | true => exact .inl rfl
      | false => exact .inr ⟨by omega, by omega, rfl⟩
theorem w64s {z : Int} (h1 : -4000000 ≤ z) (h2 : z ≤ 4000000000) : wrap64 z = z := wrap_small h1 h2
theorem parts_l0 (l : List S96) (c b0 : Int) (b1 : List S96) (tt off : Int) (hl : l.length ≤ 8) (hv : ∀ v ∈ l, 0 ≤ v.f1 ∧ v.f1 ≤ 1000) (ho : 0 ≤ off ∧ off ≤ 1000) : ∀ (d i k : Nat) (acc : List S108), d + i = l.length → d < k → acc.length + d ≤ 1000000 →
    tenetref02_parts.l0 k acc tt off (i : Int) c l b0 b1 = some (acc ++ (l.drop i).map fun v => ⟨v.f0, tt, v.f1 - off⟩) := by
  intro d
  induction d with
  | zero =>
    intro i k acc hd hk ha
    obtain ⟨k, rfl⟩ : ∃ m, k = m + 1 := ⟨k - 1, by omega⟩
    simp only [tenetref02_parts.l0]
    rw [if_neg (by omega), List.drop_eq_nil_of_le (by omega)]
    simp
  | succ d ih =>
    intro i k acc hd hk ha
    obtain ⟨k, rfl⟩ : ∃ m, k = m + 1 := ⟨k - 1, by omega⟩
    have hil : i < l.length := by omega
    have h := hv l[i] (List.getElem_mem hil)
    simp only [tenetref02_parts.l0]
    rw [if_pos (by omega), if_pos (by omega), if_pos (by omega), rd96 l i hil, w64n _ (by omega), w64s (by omega) (by omega)]
    refine (ih (i + 1) k _ (by omega) (by omega) (by simp; omega)).trans ?_
    rw [List.drop_eq_getElem_cons hil, List.append_assoc]
    rfl
theorem parts_eq (n i : Int) (c : S44) (h : FitOk n c) (hn : 0 ≤ n) (k : Nat) (hk : 11 ≤ k) (acc : List S108) (ha : acc.length ≤ 900000) : tenetref02_parts.f k n c.f0.f0 c.f0.f1 c.f1.f0 c.f1.f1 acc = some (acc ++ (arcsOf n i c).map toE) := by
  have hb := bnd_ok h hn
  obtain ⟨k, rfl⟩ : ∃ m, k = m + 1 := ⟨k - 1, by omega⟩
  have key : ∀ (tt off : Int), 0 ≤ off → off ≤ 1000 → tenetref02_parts.j0 (k + 1) n acc tt off c.f0.f0 c.f0.f1 c.f1.f0 c.f1.f1 = some (acc ++ (⟨n, tt, c.f0.f0 - off⟩ :: c.f0.f1.map fun v => (⟨v.f0, tt, v.f1 - off⟩ : S108))) := by
    intro tt off h1 h2
    have h3 := h.a.c0
    have h4 := h.a.c1
    simp only [tenetref02_parts.j0]
    rw [if_pos (by omega), w64s (by omega) (by omega)]
    refine (parts_l0 c.f0.f1 c.f0.f0 c.f1.f0 c.f1.f1 tt off h.a.len (fun v hv => by have := h.a.var v hv; omega) ⟨h1, h2⟩ c.f0.f1.length 0 k _ (by omega) (by have := h.a.len; omega) (by have := h.a.len; simp; omega)).trans ?_
    rw [List.drop_zero, List.append_assoc]
    rfl
  have hm : (arcsOf n i c).map toE = (⟨n, (bndOf n c.f1).1, c.f0.f0 - (bndOf n c.f1).2⟩ :: c.f0.f1.map fun v => (⟨v.f0, (bndOf n c.f1).1, v.f1 - (bndOf n c.f1).2⟩ : S108)) := by
    simp [arcsOf, toE, Function.comp_def]
  rw [hm]
  unfold tenetref02_parts.f
  unfold bndOf at hb ⊢
  by_cases e : c.f1.f1.length = 1
  · rw [if_pos e] at hb ⊢
    rw [if_pos (by omega), if_pos (by omega)]
    exact key _ _ hb.2.2.1 hb.2.2.2
  · rw [if_neg e] at hb ⊢
    rw [if_neg (by omega)]
    exact key _ _ hb.2.2.1 hb.2.2.2
theorem edges_l1 (n : Nat) (l : List S44) (hs : SysOk n l) : ∀ (d i k : Nat) (acc : List S108), d + i = l.length → d + 12 ≤ k → acc.length + 9 * d ≤ 900000 →
    tenetref02_edges.l1 k (n : Int) l acc (i : Int) = some (acc ++ (((upTo l.length).drop i).flatMap fun i => arcsOf n i (rd_T44 l i)).map toE) := by
  intro d
  induction d with
  | zero =>
    intro i k acc hd hk ha
    obtain ⟨k, rfl⟩ : ∃ m, k = m + 1 := ⟨k - 1, by omega⟩
    simp only [tenetref02_edges.l1]
    rw [if_neg (by omega), List.drop_eq_nil_of_le (by rw [upTo_length]; omega)]
    simp
  | succ d ih =>
    intro i k acc hd hk ha
    obtain ⟨k, rfl⟩ : ∃ m, k = m + 1 := ⟨k - 1, by omega⟩
    have hil : i < l.length := by omega
    have hfit := hs.fit l[i] (List.getElem_mem hil)
    have hlen := (arcs_len (n := (n : Int)) (i := (i : Int)) hfit).1
    have hs3 := hs.len
    simp only [tenetref02_edges.l1]
    rw [if_pos (by omega), if_pos (by omega), rd44 l i hil, parts_eq n i l[i] hfit (by omega) k (by omega) acc (by omega), Option.bind_some, w64n _ (by omega)]
    refine (ih (i + 1) k _ (by omega) (by omega) (by simp; omega)).trans ?_
    have hdr : (upTo l.length).drop i = (i : Int) :: (upTo l.length).drop (i + 1) := by
      rw [List.drop_eq_getElem_cons (by rw [upTo_length]; exact hil)]
      simp [upTo]
    rw [hdr, List.flatMap_cons, List.map_append, rd44 l i hil, List.append_assoc]
theorem edges_l0 (n : Nat) (l : List S44) (hs : SysOk n l) : ∀ (d v k : Nat), d + v = n → d + 3100 ≤ k →
    tenetref02_edges.l0 k (n : Int) l (((List.range v).map (natArc n)).map toE) (v : Int) = some ((allArcs n l (upTo l.length)).map toE) := by
  intro d
  induction d with
  | zero =>
    intro v k hd hk
    obtain ⟨k, rfl⟩ : ∃ m, k = m + 1 := ⟨k - 1, by omega⟩
    have h1 := hs.n1
    have h2 := hs.len
    simp only [tenetref02_edges.l0]
    rw [if_neg (by omega)]
    refine (edges_l1 n l hs l.length 0 k _ (by omega) (by omega) (by simp; omega)).trans ?_
    rw [List.drop_zero, ← List.map_append, show v = n by omega]
    rfl
  | succ d ih =>
    intro v k hd hk
    obtain ⟨k, rfl⟩ : ∃ m, k = m + 1 := ⟨k - 1, by omega⟩
    have h1 := hs.n1
    simp only [tenetref02_edges.l0]
    rw [if_pos (by omega), if_pos (by simp; omega), w64n _ (by omega)]
    have := ih (v + 1) k (by omega) (by omega)
    rw [List.range_succ, List.map_append, List.map_append] at this
    exact this
theorem edges_eq (n : Nat) (l : List S44) (hs : SysOk n l) (k : Nat) (hk : 5000 ≤ k) : tenetref02_edges.f k (n : Int) l = some ((allArcs n l (upTo l.length)).map toE) := by
  have h1 := hs.n1
  exact edges_l0 n l hs n 0 k (by omega) (by omega)
/-! ### the nets -/
theorem foldl_get (l : List S105) : ∀ (rows : List (List S105)) (v : Nat), v < rows.length → (∀ a ∈ l, 0 ≤ a.f0 ∧ a.f0.toNat < rows.length) → (l.foldl addArc rows).getD v [] = rows.getD v [] ++ l.filter fun a => decide (a.f0 = (v : Int)) := by
  induction l with
  | nil => intro rows v hv _; simp
  | cons a l ih =>
    intro rows v hv h
    have ha := h a List.mem_cons_self
    rw [List.foldl_cons, ih (addArc rows a) v (by rw [addArc_length]; exact hv) (fun b hb => by rw [addArc_length]; exact h b (List.mem_cons_of_mem _ hb))]
    unfold addArc
    rw [gset _ _ _ _ _ ha.2, List.filter_cons]
    by_cases e : v = a.f0.toNat
    · rw [if_pos e, if_pos (by simp; omega), e, List.append_assoc]
      rfl
    · rw [if_neg e, if_neg (by simp; omega)]
theorem rows_mem {n : Nat} {E : List S105} (hE : ArcsOk n E) : ∀ v, v ≤ n → ∀ a, a ∈ (rowsOf (n + 1) E).getD v [] ↔ (a ∈ E ∧ a.f0 = (v : Int)) := by
  intro v hv a
  unfold rowsOf
  rw [foldl_get E _ v (by rw [List.length_replicate]; omega) (fun b hb => by have := hE b hb; rw [List.length_replicate]; omega), gets_rep, List.nil_append, List.mem_filter]
  simp
theorem sys_arcs {n : Nat} {l : List S44} (hs : SysOk n l) {which : List Int} (hw : Which l which) : ArcsOk n (allArcs n l which) := fun a ha => by
  have := allArcs_mem hs.fit hw ha
  refine ⟨this.1, this.2.1, this.2.2.1, this.2.2.2.1, this.2.2.2.2.1, this.2.2.2.2.2.1, ?_⟩
  rcases this.2.2.2.2.2.2 with h | h
  · omega
  · have := hw _ h; omega
theorem sys_len {n : Nat} {l : List S44} (hs : SysOk n l) {which : List Int} (hw : Which l which) (h3 : which.length ≤ 3000) : (allArcs n l which).length ≤ 100000 := by
  have h1 := flat_len (fun i => arcsOf n i (rd_T44 l i)) 9 which (fun y hy => by
    have := hw y hy
    exact (arcs_len (hs.fit _ (mem_rd44 this.1 this.2))).1)
  have h2 : (natArcs n).length = n := by simp [natArcs]
  have := hs.n1
  unfold allArcs
  rw [List.length_append]
  omega
/-- A search in the net of some of the constraints comes to an end. -/
theorem search_spec {n : Nat} {l : List S44} (hs : SysOk n l) {which : List Int} (hw : Which l which) {s : Nat} (hsn : s ≤ n) : ∃ R, Ev (fun k => search k n l which (s : Int)) R ∧ FarPost n s (allArcs n l which) R :=
  far_spec hs.n1 (sys_arcs hs hw) hsn _ (rows_mem (sys_arcs hs hw))
theorem nat_mem {n v : Nat} (hv : v < n) (l : List S44) (which : List Int) : natArc n v ∈ allArcs n l which := List.mem_append_left _ (List.mem_map.2 ⟨v, List.mem_range.2 hv, rfl⟩)
/-- From the node 0 all nodes are reached. -/
theorem all_known {n : Nat} {l : List S44} {which : List Int} {is : Nat → Bool} {d : Nat → Int} (h : Closed (allArcs n l which) n is d) : ∀ v, v ≤ n → is v = true := by
  intro v hv
  by_cases e : v = n
  · rw [e]; exact h.start
  · have h1 := h.arc _ (nat_mem (by omega : v < n) l which) (by show is (n : Int).toNat = true; rw [Int.toNat_natCast]; exact h.start)
    have h2 := h1.1
    simpa [natArc] using h2
/-! ### solve -/
theorem solve_l0 (n : Nat) (hn : n ≤ 1200) (r : List S94) (hr : n < r.length) : ∀ (d i k : Nat), d + i = n → d < k →
    tenetref02_solve.l0 k (n : Int) r ((List.range i).map (dR r) ++ List.replicate (n - i) 0) (i : Int) = some ((List.range n).map (dR r), true) := by
  intro d
  induction d with
  | zero =>
    intro i k hd hk
    obtain ⟨k, rfl⟩ : ∃ m, k = m + 1 := ⟨k - 1, by omega⟩
    simp only [tenetref02_solve.l0]
    rw [if_neg (by omega), show i = n by omega, Nat.sub_self]
    simp
  | succ d ih =>
    intro i k hd hk
    obtain ⟨k, rfl⟩ : ∃ m, k = m + 1 := ⟨k - 1, by omega⟩
    simp only [tenetref02_solve.l0]
    rw [if_pos (by omega), if_pos (by omega), if_pos (by omega), if_pos (by simp; omega), w64n _ (by omega)]
    have hset : ((List.range i).map (dR r) ++ List.replicate (n - i) 0).set (i : Int).toNat (rd_T94 r i).f1 = (List.range (i + 1)).map (dR r) ++ List.replicate (n - (i + 1)) 0 := by
      rw [Int.toNat_natCast, show n - i = (n - (i + 1)) + 1 by omega, List.replicate_succ, List.set_append_right _ _ (by simp), List.length_map, List.length_range, Nat.sub_self, List.set_cons_zero, List.range_succ, List.map_append, List.append_assoc]
      rfl
    rw [hset]
    exact ih (i + 1) k (by omega) (by omega)
theorem range_sum (n : Nat) (st : FSt) (hl : st.sum.length = n + 1) : st.sum.take n = (List.range n).map (sm st) := by
  apply List.ext_getElem
  · simp [hl]
  · intro i h1 h2
    have hi : i < n := by simpa using h2
    simp [sm, List.getD_eq_getElem?_getD, List.getElem?_eq_getElem (show i < st.sum.length by omega)]
/-- What the reference solves, and what the program does. -/
theorem ref_solve {n : Nat} {l : List S44} (hs : SysOk n l) {R : FRes} (hR : FarPost n n (allArcs n l (upTo l.length)) R) (k : Nat) (hk : 6000 ≤ k) :
    match R with
    | .loop _ => tenetref02_solve.f k (n : Int) l = some ([], false)
    | .done st => tenetref02_solve.f k (n : Int) l = some (st.sum.take n, true) := by
  have hw := which_upTo l
  have hE := sys_arcs hs hw
  have hn := hs.n1
  have href := ref_longest hn hE (Nat.le_refl n) (sys_len hs hw (by rw [upTo_length]; exact hs.len)) R hR
  obtain ⟨k, rfl⟩ : ∃ m, k = m + 1 := ⟨k - 1, by omega⟩
  have hlong : tenetref02_longest.f (k + 1) (n : Int) ((allArcs n l (upTo l.length)).map toE) (n : Int) = some (lrounds ((allArcs n l (upTo l.length)).map toE) (n + 2) (outInit n n)) := by
    have hok : edgesOk (n : Int).toNat ((allArcs n l (upTo l.length)).map toE) := by
      intro e he
      obtain ⟨a, ha, rfl⟩ := List.mem_map.1 he
      have := hE a ha
      rw [Int.toNat_natCast]
      simp only [toE]
      omega
    unfold tenetref02_longest.f
    rw [if_pos ⟨by omega, by omega, by omega, by omega, hok⟩, Int.toNat_natCast]
    rfl
  cases R with
  | loop lp =>
    show tenetref02_solve.f (k + 1) (n : Int) l = some ([], false)
    have href2 : lrounds ((allArcs n l (upTo l.length)).map toE) (n + 2) (outInit n n) = ([], false) := href
    unfold tenetref02_solve.f
    rw [edges_eq n l hs (k + 1) (by omega), Option.bind_some, hlong, href2, Option.bind_some]
    rfl
  | done st =>
    show tenetref02_solve.f (k + 1) (n : Int) l = some (st.sum.take n, true)
    obtain ⟨hlg, out, ho, hol, hov⟩ := href
    have hkn := all_known hlg.closed
    have hls : st.sum.length = n + 1 := by obtain ⟨P, tm, T, hh⟩ := hR; exact hh.core.len.sum
    unfold tenetref02_solve.f
    rw [edges_eq n l hs (k + 1) (by omega), Option.bind_some, hlong, ho, Option.bind_some]
    dsimp only
    rw [if_pos rfl, if_pos (by omega), if_pos (by omega)]
    have h0 : (rd_T94 out (n : Int)).f1 = 0 := by
      have := (hov n (Nat.le_refl _)).2
      rw [if_pos (hkn n (Nat.le_refl _)), hlg.zero] at this
      exact this
    rw [h0, decide_eq_false (by decide)]
    simp only [tenetref02_solve.j0]
    rw [if_neg (by decide), if_pos (by omega), if_pos (by rw [Int.toNat_natCast]; omega), Int.toNat_natCast]
    have h1 := solve_l0 n hn out (by omega) n 0 k (by omega) (by omega)
    simp only [List.range_zero, List.map_nil, List.nil_append, Nat.sub_zero] at h1
    refine (show _ = _ from h1).trans ?_
    rw [range_sum n st hls]
    congr 2
    refine List.map_congr_left fun v hv => ?_
    have hv2 := List.mem_range.1 hv
    have := (hov v (by omega)).2
    rw [if_pos (hkn v (by omega))] at this
    exact this
/-- Both solve alike. -/
theorem both_solve (n : Int) (l : List S44) (hv : validB n l = true) : ∃ r : List Int × Int, (r.1.length ≤ 1200) ∧ Ev (fun k => graph_Solve.f k n l) r ∧ Ev (fun k => tenetref02_Solve.f k n l) r := by
  obtain ⟨m, rfl, hs⟩ := valid_ok hv
  obtain ⟨R, ⟨N, hN⟩, hR⟩ := search_spec hs (which_upTo l) (Nat.le_refl m)
  refine ⟨solvedOf m R, ?_, ⟨N, fun k hk => ?_⟩, ⟨6000, fun k hk => ?_⟩⟩
  · cases R with
    | loop lp => simp [solvedOf]
    | done st => simp only [solvedOf, List.length_take]; have := hs.n1; omega
  · show graph_Solve.f k (m : Int) l = _
    unfold graph_Solve.f
    rw [if_pos hv, Int.toNat_natCast]
    unfold solvedN
    rw [show search k m l (upTo l.length) (m : Int) = some R from hN k hk]
    rfl
  · have h := ref_solve hs hR k (by omega)
    show tenetref02_Solve.f k (m : Int) l = _
    unfold tenetref02_Solve.f
    rw [valid_eq _ l k (by omega), Option.bind_some, hv, if_pos rfl]
    cases R with
    | loop lp =>
      have h2 : tenetref02_solve.f k (m : Int) l = some ([], false) := h
      rw [h2]
      rfl
    | done st =>
      have h2 : tenetref02_solve.f k (m : Int) l = some (st.sum.take m, true) := h
      rw [h2]
      rfl
end Go.Proofs.Ytegejpcglabhbaa.G
