/- A part of this claim's proof: texts of its author, and printed ones, packed by a program of its author's. -/
import Derived.Test.YtegejpcglabhbaaCe5
import Derived.Test.YtegejpcglabhbaaCe6
namespace Go.Proofs.Ytegejpcglabhbaa.G
open Go.RowKit Go.Proofs.YtegejpcglabhbaaW.PrintWords Go.Proofs.YtegejpcglabhbaaW.PrintLast Go.Proofs.YtegejpcglabhbaaW.PrintMore
set_option linter.unusedVariables false
set_option linter.unusedSimpArgs false
def addArc (rows : List (List S105)) (a : S105) : List (List S105) := rows.set a.f0.toNat (rows.getD a.f0.toNat [] ++ [a])
def rowsOf (N : Nat) (l : List S105) : List (List S105) := l.foldl addArc (List.replicate N [])
theorem rowsOf_snoc (N : Nat) (l : List S105) (a : S105) : rowsOf N (l ++ [a]) = addArc (rowsOf N l) a := by simp [rowsOf, List.foldl_append]
theorem addArc_length (rows : List (List S105)) (a : S105) : (addArc rows a).length = rows.length := by simp [addArc]
theorem foldl_length (l : List S105) : ∀ rows : List (List S105), (l.foldl addArc rows).length = rows.length := by
 induction l with
 | nil => intro rows; rfl
 | cons a l ih => intro rows; rw [List.foldl_cons, ih, addArc_length]
theorem rowsOf_length (N : Nat) (l : List S105) : (rowsOf N l).length = N := by rw [rowsOf, foldl_length, List.length_replicate]
theorem foldl_row (l : List S105) : ∀ (rows : List (List S105)) (m : Nat), (∀ (i : Nat) (r : List S105), rows[i]? = some r → r.length ≤ m) → ∀ (i : Nat) (r : List S105), (l.foldl addArc rows)[i]? = some r → r.length ≤ m + l.length := by
 induction l with
 | nil => intro rows m h i r hi; exact h i r hi
 | cons a l ih =>
  intro rows m h i r hi
  rw [List.foldl_cons] at hi
  have := ih (addArc rows a) (m + 1) (fun j s hj => ?_) i r hi
  ·simp only [List.length_cons]; omega
  ·unfold addArc at hj
   by_cases e : a.f0.toNat = j
   ·subst e
    by_cases hl : a.f0.toNat < rows.length
    ·rw [List.getElem?_set_self hl] at hj
     obtain rfl := Option.some.inj hj
     rw [List.length_append, List.getD_eq_getElem?_getD]
     have h2 := h a.f0.toNat rows[a.f0.toNat] (List.getElem?_eq_getElem hl)
     rw [List.getElem?_eq_getElem hl]
     simp
     omega
    ·rw [List.getElem?_eq_none (by simp; omega)] at hj
     cases hj
   ·rw [List.getElem?_set_ne e] at hj
    have := h j s hj
    omega
theorem rowsOf_row (N : Nat) (l : List S105) (i : Nat) (r : List S105) (h : (rowsOf N l)[i]? = some r) : r.length ≤ l.length := by
 have := foldl_row l (List.replicate N []) 0 (fun j s hj => by
  obtain ⟨_, e⟩ := List.getElem?_eq_some_iff.1 hj
  rw [List.getElem_replicate] at e
  subst e
  simp) i r h
 omega
structure RowsAt (w : World) (base o : Nat) (vs : List Value) (rows : List (List S105)) : Prop where
 blk : w.heap[o]? = some (.cells vs.toArray 82 (0, 0))
 len : vs.length = rows.length
 row : ∀ (i : Nat) (v : Value) (r : List S105), vs[i]? = some v → rows[i]? = some r → k105.R 105 w base (fun _ => True) v r
 apart : ∀ (i j : Nat) (v u : Value), i ≠ j → vs[i]? = some v → vs[j]? = some u → v.ownBlock = none ∨ v.ownBlock ≠ u.ownBlock
theorem RowsAt.below {w w1 : World} {base o : Nat} {vs : List Value} {rows : List (List S105)} (h : RowsAt w base o vs rows) (hb : Below w.heap.size w w1) : RowsAt w1 base o vs rows :=
 ⟨blk_below h.blk hb, h.len, fun i v r hv hr => Kd.R_below (h.row i v r hv hr) hb, h.apart⟩
theorem RowsAt.get {w : World} {base o : Nat} {vs : List Value} {rows : List (List S105)} (h : RowsAt w base o vs rows) (i : Nat) (hi : i < rows.length) :
  ∃ v, vs[i]? = some v ∧ k105.R 105 w base (fun _ => True) v (rows.getD i []) ∧ w.cell? ⟨o, i, none⟩ = some v := by
 have hv : i < vs.length := by have := h.len; omega
 refine ⟨vs[i], List.getElem?_eq_getElem hv, ?_, ?_⟩
 ·rw [List.getD_eq_getElem?_getD, List.getElem?_eq_getElem hi]
  exact h.row i _ _ (List.getElem?_eq_getElem hv) (List.getElem?_eq_getElem hi)
 ·rw [blk_cell h.blk i]
  simp [hv]
theorem RowsAt.lt {w : World} {base o : Nat} {vs : List Value} {rows : List (List S105)} (h : RowsAt w base o vs rows) {i : Nat} {v : Value} (hv : vs[i]? = some v) {k : Nat} (hk : v.ownBlock = some k) : k < w.heap.size := by
 have hm : i < rows.length := by have := (List.getElem?_eq_some_iff.1 hv).1; have := h.len; omega
 exact Kd.R_lt (h.row i v _ hv (List.getElem?_eq_getElem hm)) k hk
theorem RowsAt.set {W w1 : World} {base o : Nat} {vs : List Value} {rows : List (List S105)} (h : RowsAt W base o vs rows) {i : Nat} {v v1 : Value} {r r1 : List S105} (hv : vs[i]? = some v) (hr : rows[i]? = some r)
  (h1 : k105.R 105 w1 base (fun _ => True) v1 r1) (hg : W.grownBy w1 v.ownBlock) (hat : v1.ownBlock = v.ownBlock ∨ ∃ b, v1.ownBlock = some b ∧ W.heap.size ≤ b) :
  RowsAt (w1.setCell ⟨o, i, none⟩ v1) base o (vs.set i v1) (rows.set i r1) := by
 have hvr := h.row i v r hv hr
 have hty : ∀ (w : World) (u : Value) (s : List S105) (ok : Nat → Prop) (cs : Array Value), k105.R 105 w base ok u s → w.heap[o]? = some (.cells cs 82 (0, 0)) → ∀ k, u.ownBlock = some k → k ≠ o := by
  intro w u s ok cs hu ho k hk e
  subst e
  obtain ⟨cells, hc⟩ := Kd.R_typed hu k hk
  rw [ho] at hc
  injection hc with hc
  injection hc with _ hc
  exact absurd hc (by decide)
 have ho1 : w1.heap[o]? = some (.cells vs.toArray 82 (0, 0)) := blk_grown h.blk hg (fun e => hty W v r _ _ hvr h.blk o e.symm rfl)
 refine ⟨by rw [blk_put ho1 i v1 rfl]; simp, by simp [h.len], ?_, ?_⟩
 ·intro j u s hu hs
  by_cases e : i = j
  ·subst e
   rw [List.getElem?_set_self (List.getElem?_eq_some_iff.1 hv).1] at hu
   rw [List.getElem?_set_self (List.getElem?_eq_some_iff.1 hr).1] at hs
   obtain rfl := Option.some.inj hu
   obtain rfl := Option.some.inj hs
   refine Kd.R_mono (Kd.R_far (Kd.R_tight rfl h1) (fun k hk => ?_) v1) (fun _ _ => trivial)
   exact hty w1 v1 r1 _ _ h1 ho1 k hk.symm
  ·rw [List.getElem?_set_ne e] at hu hs
   have hus := h.row j u s hu hs
   have hus1 : k105.R 105 w1 base (fun _ => True) u s := by
    refine Kd.R_mono (Kd.R_step (Kd.R_tight rfl hus) (fun k hk hlt => hg.block k hlt (fun e2 => ?_))) (fun _ _ => trivial)
    rcases h.apart j i u v (Ne.symm e) hu hv with h2 | h2
    ·rw [h2] at hk; cases hk
    ·exact h2 (hk.symm.trans e2)
   refine Kd.R_mono (Kd.R_far (Kd.R_tight rfl hus1) (fun k hk => ?_) v1) (fun _ _ => trivial)
   exact hty w1 u s _ _ hus1 ho1 k hk.symm
 ·intro j k u x hjk hu hx
  have new : ∀ (m : Nat) (y : Value), i ≠ m → vs[m]? = some y → (y.ownBlock = none ∨ y.ownBlock ≠ v1.ownBlock) := by
   intro m y him hy
   rcases hat with hat | ⟨b, hb, hle⟩
   ·rw [hat]; exact h.apart m i y v (Ne.symm him) hy hv
   ·rw [hb]
    right
    intro e
    have hm : m < rows.length := by have := (List.getElem?_eq_some_iff.1 hy).1; have := h.len; omega
    have := Kd.R_lt (h.row m y _ hy (List.getElem?_eq_getElem hm)) b e
    omega
  by_cases e : i = j
  ·subst e
   rw [List.getElem?_set_self (List.getElem?_eq_some_iff.1 hv).1] at hu
   obtain rfl := Option.some.inj hu
   rw [List.getElem?_set_ne hjk] at hx
   rcases new k x hjk hx with h2 | h2
   ·cases hq : v1.ownBlock with
    | none => exact .inl rfl
    | some b => right; rw [h2]; simp
   ·exact .inr (Ne.symm h2)
  ·rw [List.getElem?_set_ne e] at hu
   by_cases e2 : i = k
   ·subst e2
    rw [List.getElem?_set_self (List.getElem?_eq_some_iff.1 hv).1] at hx
    obtain rfl := Option.some.inj hx
    exact new j u e hu
   ·rw [List.getElem?_set_ne e2] at hx
    exact h.apart j k u x hjk hu hx
def bndOf (n : Int) (b : S41) : Int × Int := if b.f1.length = 1 then ((rd_T96 b.f1 0).f0, (rd_T96 b.f1 0).f1) else (n, b.f0)
def arcsOf (n i : Int) (c : S44) : List S105 := ⟨n, (bndOf n c.f1).1, c.f0.f0 - (bndOf n c.f1).2, i⟩ :: c.f0.f1.map fun v => ⟨v.f0, (bndOf n c.f1).1, v.f1 - (bndOf n c.f1).2, i⟩
structure LvlOk (a : S41) : Prop where
 c0 : 0 ≤ a.f0
 c1 : a.f0 ≤ 1000
 len : a.f1.length ≤ 8
 var : ∀ v ∈ a.f1, 0 ≤ v.f0 ∧ v.f0 < 1200 ∧ 0 ≤ v.f1 ∧ v.f1 ≤ 1000
theorem lvlVars_mem (l : List S96) : ∀ (d i : Nat), d + i = l.length → lvlVars l d i = true → ∀ v ∈ l.drop i, 0 ≤ v.f0 ∧ v.f0 < 1200 ∧ 0 ≤ v.f1 ∧ v.f1 ≤ 1000 := by
 intro d
 induction d with
 | zero =>
  intro i hd _ v hv
  rw [List.drop_eq_nil_of_le (by omega)] at hv
  cases hv
 | succ d ih =>
  intro i hd h v hv
  unfold lvlVars at h
  by_cases h1 : (rd_T96 l i).f0 < 0
  ·rw [if_pos h1] at h; cases h
  rw [if_neg h1] at h
  by_cases h2 : 1200 ≤ (rd_T96 l i).f0
  ·rw [if_pos h2] at h; cases h
  rw [if_neg h2] at h
  by_cases h3 : (rd_T96 l i).f1 < 0
  ·rw [if_pos h3] at h; cases h
  rw [if_neg h3] at h
  by_cases h4 : 1000 < (rd_T96 l i).f1
  ·rw [if_pos h4] at h; cases h
  rw [if_neg h4] at h
  by_cases h5 : 0 ≤ idxB (fun x => x.f0 == (rd_T96 l i).f0) (l.take i) 0
  ·rw [if_pos h5] at h; cases h
  rw [if_neg h5] at h
  rw [dropLVar (by omega)] at hv
  rcases List.mem_cons.1 hv with rfl | hv
  ·omega
  ·exact ih (i + 1) (by omega) h v hv
theorem lvl_ok {a : S41} (h : lvl a.f0 a.f1 = true) : LvlOk a := by
 unfold lvl at h
 by_cases h1 : a.f0 < 0
 ·rw [if_pos h1] at h; cases h
 rw [if_neg h1] at h
 by_cases h2 : 1000 < a.f0
 ·rw [if_pos h2] at h; cases h
 rw [if_neg h2] at h
 by_cases h3 : 8 < a.f1.length
 ·rw [if_pos h3] at h; cases h
 rw [if_neg h3] at h
 exact ⟨by omega, by omega, by omega, lvlVars_mem a.f1 _ 0 (by omega) h⟩
structure FitOk (n : Int) (c : S44) : Prop where
 a : LvlOk c.f0
 b : LvlOk c.f1
 one : c.f1.f1.length ≤ 1
 zero : c.f1.f1.length = 1 → c.f1.f0 = 0
 av : ∀ v ∈ c.f0.f1, v.f0 < n
 bv : ∀ v ∈ c.f1.f1, v.f0 < n
theorem fit_ok {n : Int} {c : S44} (h : fitsB n c = true) : FitOk n c := by
 simp only [fitsB, Bool.and_eq_true, decide_eq_true_eq, belowB, List.all_eq_true, Bool.not_eq_true', Bool.and_eq_false_iff, decide_eq_false_iff_not] at h
 obtain ⟨h1, h2, h3, h4, h5, h6⟩ := h
 exact ⟨lvl_ok h1, lvl_ok h2, h3, fun e => by rcases h4 with h4 | h4 <;> simp_all, h5, h6⟩
theorem bnd_ok {n : Int} {c : S44} (h : FitOk n c) (hn : 0 ≤ n) : 0 ≤ (bndOf n c.f1).1 ∧ (bndOf n c.f1).1 ≤ n ∧ 0 ≤ (bndOf n c.f1).2 ∧ (bndOf n c.f1).2 ≤ 1000 := by
 unfold bndOf
 split
 ·rename_i e
  have hm : rd_T96 c.f1.f1 0 ∈ c.f1.f1 := by
   have hl : 0 < c.f1.f1.length := by omega
   have hd : c.f1.f1.drop 0 = _ := dropLVar (l := c.f1.f1) (i := 0) hl
   simp only [List.drop_zero] at hd
   rw [hd]
   exact List.mem_cons_self
  have := h.b.var _ hm
  have := h.bv _ hm
  dsimp only
  omega
 ·have := h.b.c0
  have := h.b.c1
  dsimp only
  omega
theorem lt_lim {m : Nat} (h : m ≤ 9) : m < 4398046511104 := by omega
theorem arcs_eq (n i : Int) (c : S44) (h : FitOk n c) (hn : 0 ≤ n) (k : Nat) (hk : 9 < k) : graph_arcs.f k n i c.f0.f0 c.f0.f1 c.f1.f0 c.f1.f1 = some (arcsOf n i c) := by
 have hb : graph_bound.f n c.f1.f0 c.f1.f1 = some (bndOf n c.f1) := by
  unfold graph_bound.f bndOf
  by_cases e : c.f1.f1.length = 1
  ·rw [if_pos (by omega), if_pos (by omega), if_pos e]
  ·rw [if_neg (by omega), if_neg e]
 have hbo := bnd_ok h hn
 unfold graph_arcs.f
 rw [hb]
 simp only [Option.bind_some]
 have harcs : arcsOf n i c = (⟨n, (bndOf n c.f1).1, c.f0.f0 - (bndOf n c.f1).2, i⟩ :: c.f0.f1.map fun v => (⟨v.f0, (bndOf n c.f1).1, v.f1 - (bndOf n c.f1).2, i⟩ : S105)) := rfl
 rw [harcs]
 clear hb harcs
 generalize bndOf n c.f1 = q at hbo ⊢
 have ha := h.a
 have key : ∀ (d j k : Nat) (acc : List S105), d + j = c.f0.f1.length → d < k → acc.length = j + 1 →
   graph_arcs.l0 k i q.1 q.2 acc c.f0.f1 (c.f0.f1.length : Int) (j : Int) = some (acc ++ (c.f0.f1.drop j).map fun v => (⟨v.f0, q.1, v.f1 - q.2, i⟩ : S105)) := by
  intro d
  induction d with
  | zero =>
   intro j k acc hd hk _
   obtain ⟨k, rfl⟩ : ∃ m, k = m + 1 := ⟨k - 1, by omega⟩
   simp only [graph_arcs.l0]
   rw [if_neg (by omega), List.drop_eq_nil_of_le (by omega)]
   simp
  | succ d ih =>
   intro j k acc hd hk hl
   obtain ⟨k, rfl⟩ : ∃ m, k = m + 1 := ⟨k - 1, by omega⟩
   have hjl : j < c.f0.f1.length := by omega
   have hdr := dropLVar hjl
   have hm : rd_T96 c.f0.f1 j ∈ c.f0.f1 := List.mem_of_mem_drop (by rw [hdr]; exact List.mem_cons_self)
   have hv := ha.var _ hm
   have hlen := ha.len
   simp only [graph_arcs.l0]
   generalize rd_T96 c.f0.f1 (j : Int) = rv at hdr hm hv ⊢
   clear hm
   have e1 : (j : Int) < (c.f0.f1.length : Int) := by omega
   have e2 : 0 ≤ (j : Int) := by omega
   have e4 : acc.length < 4398046511104 := lt_lim (by omega)
   rw [if_pos e1, if_pos e2, if_pos e1, if_pos e4]
   have h5 : d + (j + 1) = c.f0.f1.length := by omega
   have h6 : d < k := by omega
   have h7 : (acc ++ [(⟨rv.f0, q.1, rv.f1 - q.2, i⟩ : S105)]).length = j + 1 + 1 := by rw [List.length_append, hl]; rfl
   have hw : wrap64 ((j : Int) + 1) = ((j + 1 : Nat) : Int) := by unfold wrap64; omega
   have hw2 : wrap64 (rv.f1 - q.2) = rv.f1 - q.2 := by unfold wrap64; omega
   rw [hw, hw2]
   refine (ih (j + 1) k (acc ++ [⟨rv.f0, q.1, rv.f1 - q.2, i⟩]) h5 h6 h7).trans ?_
   rw [hdr, List.append_assoc]
   rfl
 have hlen := ha.len
 have h0 := key c.f0.f1.length 0 k [⟨n, q.1, c.f0.f0 - q.2, i⟩] (by omega) (by omega) rfl
 have hw3 : wrap64 (c.f0.f0 - q.2) = c.f0.f0 - q.2 := by have := ha.c0; have := ha.c1; unfold wrap64; omega
 rw [hw3]
 simp only [Int.natCast_zero] at h0
 rw [h0]
 rfl
def natArc (n : Nat) (v : Nat) : S105 := ⟨(n : Int), (v : Int), 0, -1⟩
def natArcs (n : Nat) : List S105 := (List.range n).map (natArc n)
def allArcs (n : Nat) (l : List S44) (which : List Int) : List S105 := natArcs n ++ which.flatMap fun i => arcsOf n i (rd_T44 l i)
theorem flat_len {α β : Type} (f : α → List β) (m : Nat) : ∀ l : List α, (∀ x ∈ l, (f x).length ≤ m) → (l.flatMap f).length ≤ m * l.length := by
 intro l
 induction l with
 | nil => intro _; simp
 | cons x xs ih =>
  intro h
  rw [List.flatMap_cons, List.length_append, List.length_cons, Nat.mul_add, Nat.mul_one]
  have := h x List.mem_cons_self
  have := ih (fun y hy => h y (List.mem_cons_of_mem _ hy))
  omega
theorem dropLI {l : List Int} {i : Nat} (hlt : i < l.length) : l.take (i + 1) = l.take i ++ [rd l i] := by
 rw [List.take_succ_eq_append_getElem hlt]
 simp [rd, List.getD_eq_getElem?_getD, List.getElem?_eq_getElem hlt]
theorem take105 {l : List S105} {i : Nat} (hlt : i < l.length) : l.take (i + 1) = l.take i ++ [rd_T105 l i] := by
 rw [List.take_succ_eq_append_getElem hlt]
 simp [rd_T105, List.getD_eq_getElem?_getD, List.getElem?_eq_getElem hlt]
theorem mem_rd44 {l : List S44} {x : Int} (h0 : 0 ≤ x) (h1 : x < l.length) : rd_T44 l x ∈ l := by
 have hl : x.toNat < l.length := by omega
 have : rd_T44 l x = l[x.toNat] := by simp [rd_T44, List.getD_eq_getElem?_getD, List.getElem?_eq_getElem hl]
 rw [this]
 exact List.getElem_mem hl
theorem mem_rd105 {l : List S105} {i : Nat} (h : i < l.length) : rd_T105 l i ∈ l := by
 have : rd_T105 l i = l[i] := by simp [rd_T105, List.getD_eq_getElem?_getD, List.getElem?_eq_getElem h]
 rw [this]
 exact List.getElem_mem h
theorem mem_rdI {l : List Int} {i : Nat} (h : i < l.length) : rd l i ∈ l := by
 have : rd l i = l[i] := by simp [rd, List.getD_eq_getElem?_getD, List.getElem?_eq_getElem h]
 rw [this]
 exact List.getElem_mem h
theorem arcs_mem {n i : Int} {c : S44} (h : FitOk n c) (hn : 0 ≤ n) {a : S105} (ha : a ∈ arcsOf n i c) : 0 ≤ a.f0 ∧ a.f0 ≤ n ∧ 0 ≤ a.f1 ∧ a.f1 ≤ n ∧ -1000 ≤ a.f2 ∧ a.f2 ≤ 1000 ∧ a.f3 = i := by
 have hb := bnd_ok h hn
 rcases List.mem_cons.1 ha with rfl | ha
 ·have := h.a.c0
  have := h.a.c1
  dsimp only
  omega
 ·obtain ⟨v, hv, rfl⟩ := List.mem_map.1 ha
  have := h.a.var v hv
  have := h.av v hv
  dsimp only
  omega
theorem arcs_len {n i : Int} {c : S44} (h : FitOk n c) : (arcsOf n i c).length ≤ 9 ∧ 0 < (arcsOf n i c).length := by
 have := h.a.len
 simp [arcsOf]
 omega
set_option maxHeartbeats 4000000 in
set_option maxRecDepth 100000 in
theorem made_any (n : Nat) (l : List S44) (which : List Int) (A1 : Option Addr) (c1 : Nat) (A2 : Option Addr) (c2 : Nat) (w : World) (hn : n ≤ 1200) (hl : l.length ≤ 3000) (hfit : ∀ c ∈ l, FitOk n c) (hwh : ∀ i ∈ which, 0 ≤ i ∧ i < l.length) (hw3 : which.length ≤ 3000)
  (hr1 : Kd.C k44 w A1 l.length l) (hc1 : l.length ≤ c1) (hr2 : Kd.C (Kd.int .i64) w A2 which.length which) (hc2 : which.length ≤ c2) :
  Calls Try.prog 60 #[.int .i64 (n : Int), .slice A1 l.length c1, .slice A2 which.length c2] w fun e w' => ∃ (g ob : Nat) (vs : List Value), e = .returned (.pointer (some ⟨g, 0, none⟩)) ∧
   w'.heap[g]? = some (.cells #[.int .i64 (n : Int), .slice (some ⟨ob, 0, none⟩) (n + 1) (n + 1)] 103 (0, 0)) ∧ RowsAt w' w.heap.size ob vs (rowsOf (n + 1) (allArcs n l which)) ∧ w.heap.size ≤ g ∧ w.heap.size ≤ ob ∧ Below w.heap.size w w' := by
 have HR1 := Aside0.mk hr1
 have HC1 := Aside0.mk hc1
 have HR2 := Aside0.mk hr2
 have HC2 := Aside0.mk hc2
 have HF := Aside0.mk hfit
 have HW := Aside0.mk hwh
 clear hr1 hc1 hr2 hc2 hfit hwh
 have hu103 := Try.underlying103
 have hu105 := Try.underlying105
 have hmk : ∀ W : World, (Instr.makeSlice 101 (.int .i64 ((n : Int) + 1)) (.int .i64 ((n : Int) + 1))).run Try.prog W = .ok (.slice (some ⟨W.heap.size, 0, none⟩) (n + 1) (n + 1)) (W.alloc (.cells (List.replicate (n + 1) (Value.slice none 0 0)).toArray 82)) := fun W => by
  have h := run_make_row' (P := Try.prog) 101 82 (.slice none 0 0) 24 Try.underlying101 info82 rfl .i64 .i64 (n + 1) (by omega) (by omega) W
  have e : madeCells #[Value.slice none 0 0] (n + 1) = (List.replicate (n + 1) (Value.slice none 0 0)).toArray := by
   apply Array.ext
   ·simp [madeCells]
   ·intro i h1 h2
    simp [madeCells, Nat.mod_one]
  rw [e] at h
  exact h
 have hbase : ∀ (W : World) (ob : Nat), W.heap.size = ob → RowsAt (W.alloc (.cells (Array.replicate (n + 1) (Value.slice none 0 0)) 82)) w.heap.size ob (List.replicate (n + 1) (Value.slice none 0 0)) (rowsOf (n + 1) []) := fun W ob hob => by
  subst hob
  refine ⟨?_, by simp [rowsOf], ?_, ?_⟩
  ·rw [blk_new]; simp
  ·intro i v r hv hr
   obtain ⟨_, e⟩ := List.getElem?_eq_some_iff.1 hv
   rw [List.getElem_replicate] at e
   subst e
   obtain ⟨_, e⟩ := List.getElem?_eq_some_iff.1 hr
   simp only [rowsOf, List.foldl_nil, List.getElem_replicate] at e
   subst e
   exact Kd.R_nil _ _ _ _ _
  ·intro i j v u _ hv _
   obtain ⟨_, e⟩ := List.getElem?_eq_some_iff.1 hv
   rw [List.getElem_replicate] at e
   subst e
   exact .inl rfl
 have HBASE := Aside0.mk hbase
 clear hbase
 go_enter Try.func60, Try.ntmps60
 go_wp2
 clear hmk
 obtain ⟨ob, hob⟩ : ∃ ob, w.heap.size = ob := ⟨_, rfl⟩
 have HS := Aside0.mk (RowsAt.below (HBASE.out w ob hob) (below_alloc (Below.refl _ _) (.cells #[.int .i64 (n : Int), .slice (some ⟨w.heap.size, 0, none⟩) (n + 1) (n + 1)] 103)))
 have BG := Aside0.mk (blk_new (w.alloc (.cells (Array.replicate (n + 1) (Value.slice none 0 0)) 82)) (.cells #[.int .i64 (n : Int), .slice (some ⟨w.heap.size, 0, none⟩) (n + 1) (n + 1)] 103))
 have HB := Aside0.mk (below_alloc (below_alloc (Below.refl w.heap.size w) (.cells (Array.replicate (n + 1) (Value.slice none 0 0)) 82)) (.cells #[.int .i64 (n : Int), .slice (some ⟨w.heap.size, 0, none⟩) (n + 1) (n + 1)] 103))
 simp only [World.size_alloc] at BG
 have GO := Aside0.mk (Nat.le_of_eq hob)
 have GG := Aside0.mk (Nat.le_succ w.heap.size)
 simp only [Nat.succ_eq_add_one] at GG
 clear HBASE
 generalize (w.alloc (.cells (Array.replicate (n + 1) (Value.slice none 0 0)) 82)).alloc (.cells #[.int .i64 (n : Int), .slice (some ⟨w.heap.size, 0, none⟩) (n + 1) (n + 1)] 103) = w1 at HS BG HB ⊢
 generalize hg : w.heap.size + 1 = g at BG GG ⊢
 clear hg
 rw [hob] at BG ⊢
 clear hob
 go_loopg [20] n (fun kq v20 w' => ∃ (i : Nat) (vs : List Value), v20 = .int .i64 (i : Int) ∧ Aside0 (kq + i = n) ∧ Aside0 (RowsAt w' w.heap.size ob vs (rowsOf (n + 1) ((List.range i).map (natArc n)))) ∧ Aside0 (w'.heap[g]? = some (.cells #[.int .i64 (n : Int), .slice (some ⟨ob, 0, none⟩) (n + 1) (n + 1)] 103 (0, 0))) ∧ Aside0 (Below w.heap.size w w'))
 case atStart => exact ⟨0, _, rfl, ⟨rfl⟩, HS, BG, HB⟩
 case round =>
  clear HS BG HB
  obtain ⟨i, vs, rfl, HK, HS, BG, HB⟩ := hrel
  by_cases hlt : i < n
  ·have hnl : (rowsOf (n + 1) ((List.range i).map (natArc n))).length = n + 1 := rowsOf_length _ _
   obtain ⟨v, hv, hvr, _⟩ := RowsAt.get HS.out n (by omega)
   have HV := Aside0.mk (show vs.toArray[n]? = some v by simpa using hv)
   obtain ⟨row, hrow⟩ : ∃ row, row = (rowsOf (n + 1) ((List.range i).map (natArc n))).getD n [] := ⟨_, rfl⟩
   rw [← hrow] at hvr
   have HROW := Aside0.mk (show (rowsOf (n + 1) ((List.range i).map (natArc n)))[n]? = some row by rw [hrow, List.getD_eq_getElem?_getD, List.getElem?_eq_getElem (by omega)]; rfl)
   have HLEN := Aside0.mk (show row.length ≤ 30000 by have := rowsOf_row _ _ _ _ HROW.out; simp at this; omega)
   have HNE := Aside0.mk (show g ≠ ob from fun e => by have := BG.out; rw [e, HS.out.blk] at this; injection this with this; injection this with _ this; exact absurd this (by decide))
   have HRD := Aside0.mk hrow
   have HVR := Aside0.mk hvr
   clear hvr hv hnl hrow
   have hix : ((n : Int) < (n : Int) + 1) = True := eq_true (by omega)
   go_wp2
   refine start_ (n := 19) (S := fun w' => w'.heap[g]? = some (.cells #[.int .i64 (n : Int), .slice (some ⟨ob, 0, none⟩) (n + 1) (n + 1)] 103 (0, 0)) ∧ w'.heap[ob]? = some (.cells vs.toArray 82 (0, 0)) ∧ True) (ds := [18]) #[false, false, false, false, false, false, false, false, false, false, false, false, false, false, false, false, false, false, false] (by kernel_rfl) rfl rfl ⟨BG.out, HS.out.blk, trivial⟩ (fun hHeld => ?_)
   refine pure_ (i := 0) (N := some 23) (v := ?_) (a' := ?_) #[true, false, false, false, false, false, false, false, false, false, false, false, false, false, false, false, false, false, false] rfl rfl (by kernel_rfl) (fun _ _ _ h => h) (Or.inl ⟨by rfl, ?_⟩) ?_ ?_
   rotate_left
   ·intro w'
    go_simp
    with_reducible rfl
   rotate_left
   ·simp only [Act.put, List.setIfInBounds_toArray, List.set_cons_zero, List.set_cons_succ, i64_w, i32_w]
    rfl
   refine pure_ (i := 1) (N := some 24) (v := ?_) (a' := ?_) #[true, true, false, false, false, false, false, false, false, false, false, false, false, false, false, false, false, false, false] rfl rfl (by kernel_rfl) (fun _ _ _ h => h) (Or.inl ⟨by rfl, ?_⟩) ?_ ?_
   rotate_left
   ·intro w'
    go_simp
    with_reducible rfl
   rotate_left
   ·simp only [Act.put, List.setIfInBounds_toArray, List.set_cons_zero, List.set_cons_succ, i64_w, i32_w]
    rfl
   refine pure_ (i := 2) (N := some 25) (v := ?_) (a' := ?_) #[true, true, true, false, false, false, false, false, false, false, false, false, false, false, false, false, false, false, false] rfl rfl (by kernel_rfl) (fun _ _ _ h => h) (Or.inl ⟨by rfl, ?_⟩) ?_ ?_
   rotate_left
   ·intro w'
    go_simp
    with_reducible rfl
   rotate_left
   ·simp only [Act.put, List.setIfInBounds_toArray, List.set_cons_zero, List.set_cons_succ, i64_w, i32_w]
    rfl
   refine take_ (i := 3) (N := some 26) (v := ?_) (a' := ?_) #[true, true, true, true, false, false, false, false, false, false, false, false, false, false, false, false, false, false, false] rfl rfl (by kernel_rfl) (fun _ _ _ h => h) (Or.inl ⟨by rfl, ?_⟩) hHeld ?_ ?_
   rotate_left
   ·rintro w' ⟨s0, s1, _⟩
    have z0 := (blk_cell s0 1).trans rfl
    have z1 := (blk_cell s1 n).trans HV.out
    go_simp
    with_reducible rfl
   rotate_left
   ·simp only [Act.put, List.setIfInBounds_toArray, List.set_cons_zero, List.set_cons_succ, i64_w, i32_w]
    rfl
   refine pure_ (i := 4) (N := some 27) (v := ?_) (a' := ?_) #[true, true, true, true, true, false, false, false, false, false, false, false, false, false, false, false, false, false, false] rfl rfl (by kernel_rfl) (fun _ _ _ h => h) (Or.inl ⟨by rfl, ?_⟩) ?_ ?_
   rotate_left
   ·intro w'
    go_simp
    with_reducible rfl
   rotate_left
   ·simp only [Act.put, List.setIfInBounds_toArray, List.set_cons_zero, List.set_cons_succ, i64_w, i32_w]
    rfl
   refine pure_ (i := 5) (N := some 28) (v := ?_) (a' := ?_) #[true, true, true, true, true, true, false, false, false, false, false, false, false, false, false, false, false, false, false] rfl rfl (by kernel_rfl) (fun _ _ _ h => h) (Or.inl ⟨by rfl, ?_⟩) ?_ ?_
   rotate_left
   ·intro w'
    go_simp
    with_reducible rfl
   rotate_left
   ·simp only [Act.put, List.setIfInBounds_toArray, List.set_cons_zero, List.set_cons_succ, i64_w, i32_w]
    rfl
   refine pure_ (i := 6) (N := some 29) (v := ?_) (a' := ?_) #[true, true, true, true, true, true, true, false, false, false, false, false, false, false, false, false, false, false, false] rfl rfl (by kernel_rfl) (fun _ _ _ h => h) (Or.inl ⟨by rfl, ?_⟩) ?_ ?_
   rotate_left
   ·intro w'
    go_simp
    with_reducible rfl
   rotate_left
   ·simp only [Act.put, List.setIfInBounds_toArray, List.set_cons_zero, List.set_cons_succ, i64_w, i32_w]
    rfl
   refine pure_ (i := 7) (N := some 30) (v := ?_) (a' := ?_) #[true, true, true, true, true, true, true, true, false, false, false, false, false, false, false, false, false, false, false] rfl rfl (by kernel_rfl) (fun _ _ _ h => h) (Or.inl ⟨by rfl, ?_⟩) ?_ ?_
   rotate_left
   ·intro w'
    go_simp
    with_reducible rfl
   rotate_left
   ·simp only [Act.put, List.setIfInBounds_toArray, List.set_cons_zero, List.set_cons_succ, i64_w, i32_w]
    rfl
   refine take_ (i := 8) (N := some 31) (v := ?_) (a' := ?_) #[true, true, true, true, true, true, true, true, true, false, false, false, false, false, false, false, false, false, false] rfl rfl (by kernel_rfl) (fun _ _ _ h => h) (Or.inl ⟨by rfl, ?_⟩) hHeld ?_ ?_
   rotate_left
   ·rintro w' ⟨s0, s1, _⟩
    have z0 := (blk_cell s0 1).trans rfl
    have z1 := (blk_cell s1 n).trans HV.out
    go_simp
    with_reducible rfl
   rotate_left
   ·simp only [Act.put, List.setIfInBounds_toArray, List.set_cons_zero, List.set_cons_succ, i64_w, i32_w]
    rfl
   refine pure_ (i := 9) (N := some 32) (v := ?_) (a' := ?_) #[true, true, true, true, true, true, true, true, true, true, false, false, false, false, false, false, false, false, false] rfl rfl (by kernel_rfl) (fun _ _ _ h => h) (Or.inl ⟨by rfl, ?_⟩) ?_ ?_
   rotate_left
   ·intro w'
    go_simp
    with_reducible rfl
   rotate_left
   ·simp only [Act.put, List.setIfInBounds_toArray, List.set_cons_zero, List.set_cons_succ, i64_w, i32_w]
    rfl
   refine pure_ (i := 10) (N := some 33) (v := ?_) (a' := ?_) #[true, true, true, true, true, true, true, true, true, true, true, false, false, false, false, false, false, false, false] rfl rfl (by kernel_rfl) (fun _ _ _ h => h) (Or.inl ⟨by rfl, ?_⟩) ?_ ?_
   rotate_left
   ·intro w'
    go_simp
    with_reducible rfl
   rotate_left
   ·simp only [Act.put, List.setIfInBounds_toArray, List.set_cons_zero, List.set_cons_succ, i64_w, i32_w]
    rfl
   refine take_ (i := 11) (N := some 34) (v := ?_) (a' := ?_) #[true, true, true, true, true, true, true, true, true, true, true, true, false, false, false, false, false, false, false] rfl rfl (by kernel_rfl) (fun _ _ _ h => h) (Or.inl ⟨by rfl, ?_⟩) hHeld ?_ ?_
   rotate_left
   ·rintro w' ⟨s0, s1, _⟩
    have z0 := (blk_cell s0 1).trans rfl
    have z1 := (blk_cell s1 n).trans HV.out
    go_simp
    with_reducible rfl
   rotate_left
   ·simp only [Act.put, List.setIfInBounds_toArray, List.set_cons_zero, List.set_cons_succ, i64_w, i32_w]
    rfl
   refine pure_ (i := 12) (N := some 35) (v := ?_) (a' := ?_) #[true, true, true, true, true, true, true, true, true, true, true, true, true, false, false, false, false, false, false] rfl rfl (by kernel_rfl) (fun _ _ _ h => h) (Or.inl ⟨by rfl, ?_⟩) ?_ ?_
   rotate_left
   ·intro w'
    go_simp
    with_reducible rfl
   rotate_left
   ·simp only [Act.put, List.setIfInBounds_toArray, List.set_cons_zero, List.set_cons_succ, i64_w, i32_w]
    rfl
   refine pure_ (i := 13) (N := some 36) (v := ?_) (a' := ?_) #[true, true, true, true, true, true, true, true, true, true, true, true, true, true, false, false, false, false, false] rfl rfl (by kernel_rfl) (fun _ _ _ h => h) (Or.inl ⟨by rfl, ?_⟩) ?_ ?_
   rotate_left
   ·intro w'
    go_simp
    with_reducible rfl
   rotate_left
   ·simp only [Act.put, List.setIfInBounds_toArray, List.set_cons_zero, List.set_cons_succ, i64_w, i32_w]
    rfl
   refine pure_ (i := 14) (N := some 37) (v := ?_) (a' := ?_) #[true, true, true, true, true, true, true, true, true, true, true, true, true, true, true, false, false, false, false] rfl rfl (by kernel_rfl) (fun _ _ _ h => h) (Or.inl ⟨by rfl, ?_⟩) ?_ ?_
   rotate_left
   ·intro w'
    go_simp
    with_reducible rfl
   rotate_left
   ·simp only [Act.put, List.setIfInBounds_toArray, List.set_cons_zero, List.set_cons_succ, i64_w, i32_w]
    rfl
   refine one_ (i := 15) (N := some 38) #[true, true, true, true, true, true, true, true, true, true, true, true, true, true, true, true, false, false, false] rfl rfl (by kernel_rfl) (by decide) (fun K hK => ?_)
   refine value_ (w1 := wr.drew.alloc (.cells #[.int .i64 (natArc n i).f0, .int .i64 (natArc n i).f1, .int .i64 (natArc n i).f2, .int .i64 (natArc n i).f3] 105)) (v := .slice (some ⟨wr.drew.heap.size, 0, none⟩) 1 1) (by rfl) rfl ?_ ?_
   ·go_simp
    try rfl
   refine hK.out _ _ ⟨blk_alloc hHeld.1 _, blk_alloc hHeld.2.1 _, trivial⟩ (fun hHeld => ?_)
   clear hK K
   refine norm_ (a' := ?_) ?_ ?_
   rotate_left
   ·show Act.put _ (some 38) _ = _
    simp only [Act.put, List.setIfInBounds_toArray, List.set_cons_zero, List.set_cons_succ, i64_w, i32_w]
    rfl
   refine one_ (i := 16) (N := some 39) #[true, true, true, true, true, true, true, true, true, true, true, true, true, true, true, true, true, false, false] rfl rfl (by kernel_rfl) (by decide) (fun K hK => ?_)
   refine Kd.R_append_step k105 (w0 := w) w.heap.size (by rfl) (.tmp 34) (.tmp 38) 82 105 (.agg #[(.int .i64 0), (.int .i64 0), (.int .i64 0), (.int .i64 0)]) 32 rfl Try.underlying82 info105 rfl (by decide) (by omega) v row ((natArc n i)) [.int .i64 (natArc n i).f0, .int .i64 (natArc n i).f1, .int .i64 (natArc n i).f2, .int .i64 (natArc n i).f3] (fun _ => True) (fun _ => False) rfl rfl ?aP (fun _ hk => hk.elim) (fun _ _ => trivial) ?aO ?aB ?aS ?aL ?_
   (case aP => exact k105_mkM _ _ _ _)
   (case aO => exact Kd.R_drew HVR.out)
   (case aB => exact below_drew HB.out)
   (case aS => exact below_size (below_drew HB.out))
   (case aL => have := HLEN.out; omega)
   intro v1 w2 ho hb hgr hat
   refine hK.out _ _ ⟨blk_grown (blk_drew BG.out) hgr (Kd.R_ne HVR.out BG.out (by decide)), blk_grown (blk_drew HS.out.blk) hgr (Kd.R_ne HVR.out HS.out.blk (by decide)), trivial⟩ (fun hHeld => ?_)
   clear hK K
   have HN := Aside0.mk (RowsAt.set (RowsAt.below HS.out (below_drew (Below.refl _ _))) (i := n) (by simpa using HV.out) HROW.out ho hgr hat)
   have HB2 := Aside0.mk (below_set (j := n) (v := v1) hb GO.out)
   have BG2 := Aside0.mk (blk_far hHeld.1 (p := ⟨ob, n, none⟩) (HNE.out) v1)
   have zc : w2.cell? ⟨ob, n, none⟩ = some v := (blk_cell hHeld.2.1 n).trans HV.out
   have zf : w2.frozen? ⟨ob, n, none⟩ = false := blk_frozen hHeld.2.1 _
   obtain ⟨Av, cv, hv1⟩ := Kd.R_slice ho
   subst hv1
   clear ho hb hgr hat
   refine norm_ (a' := ?_) ?_ ?_
   rotate_left
   ·show Act.put _ (some 39) _ = _
    simp only [Act.put, List.setIfInBounds_toArray, List.set_cons_zero, List.set_cons_succ, i64_w, i32_w]
    rfl
   refine pure_ (i := 17) (N := some 40) (v := ?_) (a' := ?_) #[true, true, true, true, true, true, true, true, true, true, true, true, true, true, true, true, true, true, false] rfl rfl (by kernel_rfl) (fun _ _ _ h => h) (Or.inl ⟨by rfl, ?_⟩) ?_ ?_
   rotate_left
   ·intro w'
    go_simp
    with_reducible rfl
   rotate_left
   ·simp only [Act.put, List.setIfInBounds_toArray, List.set_cons_zero, List.set_cons_succ, i64_w, i32_w]
    rfl
   refine last_ (i := 18) (N := none) #[true, true, true, true, true, true, true, true, true, true, true, true, true, true, true, true, true, true, true] rfl rfl (by kernel_rfl) (by decide) (fun K hK => ?_)
   refine skip_ (w1 := w2.setCell ⟨ob, n, none⟩ (.slice Av (row ++ [(natArc n i)]).length cv)) (by rfl) rfl ?_ ?_
   ·go_simp
    try rfl
   refine hK.out _ _ ?_
   clear hK K zc zf
   refine done_ (by kernel_rfl) ?_
   have HN2 := Aside0.mk (show RowsAt _ w.heap.size ob _ (rowsOf (n + 1) ((List.range (i + 1)).map (natArc n))) by rw [List.range_succ, List.map_append, List.map_singleton, rowsOf_snoc]; unfold addArc; rw [show (natArc n i).f0.toNat = n from Int.toNat_natCast n, ← HRD.out]; exact HN.out)
   clear hix HN hHeld
   generalize w2.setCell ⟨ob, n, none⟩ (.slice Av (row ++ [natArc n i]).length cv) = w3 at HN2 BG2 HB2 ⊢
   go_wp2
   go_roundg (n - i - 1)
   case measure => have := HK.out; omega
   case rel => exact ⟨i + 1, _, by go_num, ⟨by omega⟩, HN2, BG2, HB2⟩
  ·have HI := Aside0.mk (show i = n by have := HK.out; omega)
   have HS := Aside0.mk (show RowsAt wr w.heap.size ob vs (rowsOf (n + 1) (natArcs n)) by have := HS.out; rw [HI.out] at this; exact this)
   go_wp2
   clear HI HK
   generalize (i : Int) = iv
   go_loopg [44] which.length (fun kq v44 w' => ∃ (i : Nat) (vs : List Value), v44 = .int .i64 (i : Int) ∧ Aside0 (kq + i = which.length) ∧ Aside0 (RowsAt w' w.heap.size ob vs (rowsOf (n + 1) (natArcs n ++ (which.take i).flatMap fun i => arcsOf n i (rd_T44 l i)))) ∧ Aside0 (w'.heap[g]? = some (.cells #[.int .i64 (n : Int), .slice (some ⟨ob, 0, none⟩) (n + 1) (n + 1)] 103 (0, 0))) ∧ Aside0 (Below w.heap.size w w'))
   case atStart => exact ⟨0, _, rfl, ⟨rfl⟩, ⟨by have := HS.out; simpa using this⟩, BG, HB⟩
   case round =>
    clear HS BG HB
    obtain ⟨i, vs, rfl, HK, HS, BG, HB⟩ := hrel
    by_cases hlt : i < which.length
    ·obtain ⟨x, hx⟩ : ∃ x, x = rd which i := ⟨_, rfl⟩
     have hx0 := HW.out (rd which i) (mem_rdI hlt)
     have HTK := Aside0.mk (dropLI hlt)
     obtain ⟨ad2, e2, q0⟩ := Kd.at_int HR2.out (i : Int) (by omega) (by omega)
     cases e2
     replace q0 := (HB.out.cell (World.block_lt_of_cell? w _ q0)).trans q0
     simp only [Int.toNat_natCast] at q0
     rw [← hx] at hx0 q0 HTK
     clear hx
     obtain ⟨ad1, A3, c3, A5, c5, e1, q1, q2, q3, q4, l1, g1, l3, g3⟩ := at_T44 HR1.out x hx0.1 hx0.2
     cases e1
     replace q1 := (HB.out.cell (World.block_lt_of_cell? w _ q1)).trans q1
     replace q2 := (HB.out.cell (World.block_lt_of_cell? w _ q2)).trans q2
     replace q3 := (HB.out.cell (World.block_lt_of_cell? w _ q3)).trans q3
     replace q4 := (HB.out.cell (World.block_lt_of_cell? w _ q4)).trans q4
     have HFIT := Aside0.mk (HF.out _ (mem_rd44 hx0.1 hx0.2))
     obtain ⟨cc, hcc⟩ : ∃ cc, rd_T44 l x = cc := ⟨_, rfl⟩
     rw [hcc] at q1 q2 q3 q4 l1 g1 l3 g3 HFIT
     have HCC := Aside0.mk hcc
     clear hcc
     have G1 := Aside0.mk g1
     have G3 := Aside0.mk g3
     have L1 := Aside0.mk l1
     have L3 := Aside0.mk l3
     clear g1 g3 l1 l3
     have hx1 := hx0.1
     have hx2 := hx0.2
     clear hx0
     have HAL := Aside0.mk (arcs_len (n := (n : Int)) (i := x) HFIT.out)
     go_wp2_with (fail)
     refine (graph_arcs.calls 10 (n : Int) x cc.f0.f0 A3 c3 cc.f0.f1 cc.f1.f0 A5 c5 cc.f1.f1 (arcsOf (n : Int) x cc) _ (Kd.C_below G1.out HB.out) L1.out (Kd.C_below G3.out HB.out) L3.out (arcs_eq (n : Int) x cc HFIT.out (by omega) 10 (by omega))).mono ?_
     rintro e w2 ⟨va, rfl, ha, hb⟩
     clear q0 q1 q2 q3 q4 hx1 hx2
     have HPL := Aside0.mk (show (natArcs n ++ (which.take i).flatMap fun i => arcsOf n i (rd_T44 l i)).length ≤ 1200 + 9 * 3000 by
      rw [List.length_append]
      have h1 : (natArcs n).length = n := by simp [natArcs]
      have h2 := flat_len (fun i => arcsOf n i (rd_T44 l i)) 9 (which.take i) (fun y hy => by
       have := HW.out y (List.mem_of_mem_take hy)
       exact (arcs_len (HF.out _ (mem_rd44 this.1 this.2))).1)
      have h3 : (which.take i).length ≤ 3000 := by rw [List.length_take]; omega
      omega)
     obtain ⟨pre, hpre⟩ : ∃ pre, pre = (natArcs n ++ (which.take i).flatMap fun i => arcsOf n i (rd_T44 l i)) := ⟨_, rfl⟩
     rw [← hpre] at HPL HS
     have HPRE := Aside0.mk (show natArcs n ++ (which.take (i + 1)).flatMap (fun i => arcsOf n i (rd_T44 l i)) = pre ++ arcsOf n x cc by rw [HTK.out, List.flatMap_append, ← List.append_assoc, ← hpre]; simp [HCC.out])
     clear hpre HTK HCC
     have HAM := Aside0.mk (fun a (ha : a ∈ arcsOf (n : Int) x cc) => arcs_mem HFIT.out (Int.natCast_nonneg n) ha)
     have HA := Aside0.mk (Kd.R_lower ha HB.out.size)
     have HLT := Aside0.mk (fun (i : Nat) (v : Value) (hv : vs[i]? = some v) (k : Nat) (hk : v.ownBlock = some k) => RowsAt.lt HS.out hv hk)
     have HS := Aside0.mk (RowsAt.below HS.out hb)
     have BG := Aside0.mk (blk_below BG.out hb)
     obtain ⟨L, hL⟩ : ∃ L, L = arcsOf (n : Int) x cc := ⟨_, rfl⟩
     rw [← hL] at HA HPRE HAM HAL ha
     clear hL HFIT G1 G3 L1 L3
     obtain ⟨b, cap, hv, hbn, hbl, _⟩ := Kd.R_form ha HAL.out.2
     subst hv
     have HOFF := Aside0.mk (show ∀ (i : Nat) (v : Value), vs[i]? = some v → some b ≠ v.ownBlock from fun i v hv e => by
      have := HLT.out i v hv b e.symm
      omega)
     have HB := Aside0.mk (below_step HB.out hb)
     clear ha hb hbn hbl HLT
     have hL9 := HAL.out.1
     go_wp2
     go_loopg [56] L.length (fun kq v56 w' => ∃ (j : Nat) (vs : List Value), v56 = .int .i64 (j : Int) ∧ Aside0 (kq + j = L.length) ∧ Aside0 (RowsAt w' w.heap.size ob vs (rowsOf (n + 1) (pre ++ L.take j))) ∧ Aside0 (w'.heap[g]? = some (.cells #[.int .i64 (n : Int), .slice (some ⟨ob, 0, none⟩) (n + 1) (n + 1)] 103 (0, 0))) ∧
      Aside0 (k105.R 105 w' w.heap.size (fun _ => True) (.slice (some ⟨b, 0, none⟩) L.length cap) L) ∧ Aside0 (∀ (i : Nat) (v : Value), vs[i]? = some v → some b ≠ v.ownBlock) ∧ Aside0 (Below w.heap.size w w'))
     case atStart => exact ⟨0, vs, rfl, ⟨rfl⟩, ⟨by have := HS.out; simpa using this⟩, BG, HA, HOFF, HB⟩
     case round =>
      clear HS BG HB HA HOFF
      obtain ⟨j, vs, rfl, HJ, HS, BG, HA, HOFF, HB⟩ := hrel
      by_cases hjl : j < L.length
      ·have HTK := Aside0.mk (take105 hjl)
       have HAJ := Aside0.mk (HAM.out _ (mem_rd105 hjl))
       obtain ⟨ad, e, q0, q1, q2, q3⟩ := at_T105 (Kd.R_reads' HA.out).2.2 (j : Int) (by omega) (by omega)
       injection e with e
       subst e
       simp only [Int.toNat_natCast, add_plain] at q0 q1 q2 q3
       obtain ⟨a, ha⟩ : ∃ a, rd_T105 L j = a := ⟨_, rfl⟩
       rw [ha] at HTK HAJ q0 q1 q2 q3
       clear ha
       have hnl : (rowsOf (n + 1) (pre ++ L.take j)).length = n + 1 := rowsOf_length _ _
       have ha0 := HAJ.out.1
       have ha1 := HAJ.out.2.1
       obtain ⟨v, hv, hvr, _⟩ := RowsAt.get HS.out a.f0.toNat (by omega)
       have HV := Aside0.mk (show vs.toArray[a.f0.toNat]? = some v by simpa using hv)
       obtain ⟨row, hrow⟩ : ∃ row, row = (rowsOf (n + 1) (pre ++ L.take j)).getD a.f0.toNat [] := ⟨_, rfl⟩
       rw [← hrow] at hvr
       have HROW := Aside0.mk (show (rowsOf (n + 1) (pre ++ L.take j))[a.f0.toNat]? = some row by rw [hrow, List.getD_eq_getElem?_getD, List.getElem?_eq_getElem (by omega)]; rfl)
       have HLEN := Aside0.mk (show row.length ≤ 30000 by
        have h1 := rowsOf_row _ _ _ _ HROW.out
        rw [List.length_append, List.length_take] at h1
        have h2 := HPL.out
        have h3 := HAL.out
        omega)
       have HNE := Aside0.mk (show g ≠ ob from fun e => by have := BG.out; rw [e, HS.out.blk] at this; injection this with this; injection this with _ this; exact absurd this (by decide))
       have HVO := Aside0.mk (HOFF.out _ v hv)
       have HVL := Aside0.mk (fun (k : Nat) (hk : v.ownBlock = some k) => RowsAt.lt HS.out hv hk)
       have HRD := Aside0.mk hrow
       have HVR := Aside0.mk hvr
       clear hvr hv hnl hrow
       go_wp2
       clear q0 q1 q2 q3
       have HVB := Aside0.mk (show some wr.heap.size ≠ v.ownBlock from fun e => Nat.lt_irrefl _ (HVL.out _ e.symm))
       have BT := Aside0.mk (blk_new wr (.cells #[.int .i64 a.f0, .int .i64 a.f1, .int .i64 a.f2, .int .i64 a.f3] 105))
       have hbb := below_alloc (Below.refl wr.heap.size wr) (.cells #[.int .i64 a.f0, .int .i64 a.f1, .int .i64 a.f2, .int .i64 a.f3] 105)
       have HVR := Aside0.mk (Kd.R_below HVR.out hbb)
       have HS := Aside0.mk (RowsAt.below HS.out hbb)
       have HA := Aside0.mk (Kd.R_below HA.out hbb)
       have BG := Aside0.mk (blk_below BG.out hbb)
       have HB := Aside0.mk (below_step HB.out hbb)
       clear hbb HVL
       generalize wr.alloc (.cells #[.int .i64 a.f0, .int .i64 a.f1, .int .i64 a.f2, .int .i64 a.f3] 105) = wr at HS BG HB HA BT HVR ⊢
       generalize (_ : World).heap.size = bt at BT HVB ⊢
       have hix : (a.f0 < (n : Int) + 1) = True := eq_true (by omega)
       have hi0 : (0 ≤ a.f0) = True := eq_true ha0
       have HBO := Aside0.mk (show b ≠ ob from fun e => by
        obtain ⟨cells, hc⟩ := Kd.R_typed HA.out b rfl
        rw [e, HS.out.blk] at hc
        injection hc with hc
        injection hc with _ hc
        exact absurd hc (by decide))
       have HBL := Aside0.mk (Kd.R_lt HA.out b rfl)
       refine start_ (n := 19) (S := fun w' => w'.heap[g]? = some (.cells #[.int .i64 (n : Int), .slice (some ⟨ob, 0, none⟩) (n + 1) (n + 1)] 103 (0, 0)) ∧ w'.heap[ob]? = some (.cells vs.toArray 82 (0, 0)) ∧ w'.heap[bt]? = some (.cells #[.int .i64 a.f0, .int .i64 a.f1, .int .i64 a.f2, .int .i64 a.f3] 105 (0, 0))) (ds := [18]) #[false, false, false, false, false, false, false, false, false, false, false, false, false, false, false, false, false, false, false] (by kernel_rfl) rfl rfl ⟨BG.out, HS.out.blk, BT.out⟩ (fun hHeld => ?_)
       refine pure_ (i := 0) (N := some 60) (v := ?_) (a' := ?_) #[true, false, false, false, false, false, false, false, false, false, false, false, false, false, false, false, false, false, false] rfl rfl (by kernel_rfl) (fun _ _ _ h => h) (Or.inl ⟨by rfl, ?_⟩) ?_ ?_
       rotate_left
       ·intro w'
        go_simp
        with_reducible rfl
       rotate_left
       ·simp only [Act.put, List.setIfInBounds_toArray, List.set_cons_zero, List.set_cons_succ, i64_w, i32_w]
        rfl
       refine pure_ (i := 1) (N := some 61) (v := ?_) (a' := ?_) #[true, true, false, false, false, false, false, false, false, false, false, false, false, false, false, false, false, false, false] rfl rfl (by kernel_rfl) (fun _ _ _ h => h) (Or.inl ⟨by rfl, ?_⟩) ?_ ?_
       rotate_left
       ·intro w'
        go_simp
        with_reducible rfl
       rotate_left
       ·simp only [Act.put, List.setIfInBounds_toArray, List.set_cons_zero, List.set_cons_succ, i64_w, i32_w]
        rfl
       refine pure_ (i := 2) (N := some 62) (v := ?_) (a' := ?_) #[true, true, true, false, false, false, false, false, false, false, false, false, false, false, false, false, false, false, false] rfl rfl (by kernel_rfl) (fun _ _ _ h => h) (Or.inl ⟨by rfl, ?_⟩) ?_ ?_
       rotate_left
       ·intro w'
        go_simp
        with_reducible rfl
       rotate_left
       ·simp only [Act.put, List.setIfInBounds_toArray, List.set_cons_zero, List.set_cons_succ, i64_w, i32_w]
        rfl
       refine take_ (i := 3) (N := some 63) (v := ?_) (a' := ?_) #[true, true, true, true, false, false, false, false, false, false, false, false, false, false, false, false, false, false, false] rfl rfl (by kernel_rfl) (fun _ _ _ h => h) (Or.inl ⟨by rfl, ?_⟩) hHeld ?_ ?_
       rotate_left
       ·rintro w' ⟨s0, s1, s2⟩
        have z0 := (blk_cell s0 1).trans rfl
        have z1 := (blk_cell s1 a.f0.toNat).trans HV.out
        have y0 := (blk_cell s2 0).trans rfl
        have y1 := (blk_cell s2 1).trans rfl
        have y2 := (blk_cell s2 2).trans rfl
        have y3 := (blk_cell s2 3).trans rfl
        go_simp
        with_reducible rfl
       rotate_left
       ·simp only [Act.put, List.setIfInBounds_toArray, List.set_cons_zero, List.set_cons_succ, i64_w, i32_w]
        rfl
       refine pure_ (i := 4) (N := some 64) (v := ?_) (a' := ?_) #[true, true, true, true, true, false, false, false, false, false, false, false, false, false, false, false, false, false, false] rfl rfl (by kernel_rfl) (fun _ _ _ h => h) (Or.inl ⟨by rfl, ?_⟩) ?_ ?_
       rotate_left
       ·intro w'
        go_simp
        with_reducible rfl
       rotate_left
       ·simp only [Act.put, List.setIfInBounds_toArray, List.set_cons_zero, List.set_cons_succ, i64_w, i32_w]
        rfl
       refine take_ (i := 5) (N := some 65) (v := ?_) (a' := ?_) #[true, true, true, true, true, true, false, false, false, false, false, false, false, false, false, false, false, false, false] rfl rfl (by kernel_rfl) (fun _ _ _ h => h) (Or.inl ⟨by rfl, ?_⟩) hHeld ?_ ?_
       rotate_left
       ·rintro w' ⟨s0, s1, s2⟩
        have z0 := (blk_cell s0 1).trans rfl
        have z1 := (blk_cell s1 a.f0.toNat).trans HV.out
        have y0 := (blk_cell s2 0).trans rfl
        have y1 := (blk_cell s2 1).trans rfl
        have y2 := (blk_cell s2 2).trans rfl
        have y3 := (blk_cell s2 3).trans rfl
        go_simp
        with_reducible rfl
       rotate_left
       ·simp only [Act.put, List.setIfInBounds_toArray, List.set_cons_zero, List.set_cons_succ, i64_w, i32_w]
        rfl
       refine pure_ (i := 6) (N := some 66) (v := ?_) (a' := ?_) #[true, true, true, true, true, true, true, false, false, false, false, false, false, false, false, false, false, false, false] rfl rfl (by kernel_rfl) (fun _ _ _ h => h) (Or.inl ⟨by rfl, ?_⟩) ?_ ?_
       rotate_left
       ·intro w'
        go_simp
        with_reducible rfl
       rotate_left
       ·simp only [Act.put, List.setIfInBounds_toArray, List.set_cons_zero, List.set_cons_succ, i64_w, i32_w]
        rfl
       refine pure_ (i := 7) (N := some 67) (v := ?_) (a' := ?_) #[true, true, true, true, true, true, true, true, false, false, false, false, false, false, false, false, false, false, false] rfl rfl (by kernel_rfl) (fun _ _ _ h => h) (Or.inl ⟨by rfl, ?_⟩) ?_ ?_
       rotate_left
       ·intro w'
        go_simp
        with_reducible rfl
       rotate_left
       ·simp only [Act.put, List.setIfInBounds_toArray, List.set_cons_zero, List.set_cons_succ, i64_w, i32_w]
        rfl
       refine pure_ (i := 8) (N := some 68) (v := ?_) (a' := ?_) #[true, true, true, true, true, true, true, true, true, false, false, false, false, false, false, false, false, false, false] rfl rfl (by kernel_rfl) (fun _ _ _ h => h) (Or.inl ⟨by rfl, ?_⟩) ?_ ?_
       rotate_left
       ·intro w'
        go_simp
        with_reducible rfl
       rotate_left
       ·simp only [Act.put, List.setIfInBounds_toArray, List.set_cons_zero, List.set_cons_succ, i64_w, i32_w]
        rfl
       refine take_ (i := 9) (N := some 69) (v := ?_) (a' := ?_) #[true, true, true, true, true, true, true, true, true, true, false, false, false, false, false, false, false, false, false] rfl rfl (by kernel_rfl) (fun _ _ _ h => h) (Or.inl ⟨by rfl, ?_⟩) hHeld ?_ ?_
       rotate_left
       ·rintro w' ⟨s0, s1, s2⟩
        have z0 := (blk_cell s0 1).trans rfl
        have z1 := (blk_cell s1 a.f0.toNat).trans HV.out
        have y0 := (blk_cell s2 0).trans rfl
        have y1 := (blk_cell s2 1).trans rfl
        have y2 := (blk_cell s2 2).trans rfl
        have y3 := (blk_cell s2 3).trans rfl
        go_simp
        with_reducible rfl
       rotate_left
       ·simp only [Act.put, List.setIfInBounds_toArray, List.set_cons_zero, List.set_cons_succ, i64_w, i32_w]
        rfl
       refine pure_ (i := 10) (N := some 70) (v := ?_) (a' := ?_) #[true, true, true, true, true, true, true, true, true, true, true, false, false, false, false, false, false, false, false] rfl rfl (by kernel_rfl) (fun _ _ _ h => h) (Or.inl ⟨by rfl, ?_⟩) ?_ ?_
       rotate_left
       ·intro w'
        go_simp
        with_reducible rfl
       rotate_left
       ·simp only [Act.put, List.setIfInBounds_toArray, List.set_cons_zero, List.set_cons_succ, i64_w, i32_w]
        rfl
       refine take_ (i := 11) (N := some 71) (v := ?_) (a' := ?_) #[true, true, true, true, true, true, true, true, true, true, true, true, false, false, false, false, false, false, false] rfl rfl (by kernel_rfl) (fun _ _ _ h => h) (Or.inl ⟨by rfl, ?_⟩) hHeld ?_ ?_
       rotate_left
       ·rintro w' ⟨s0, s1, s2⟩
        have z0 := (blk_cell s0 1).trans rfl
        have z1 := (blk_cell s1 a.f0.toNat).trans HV.out
        have y0 := (blk_cell s2 0).trans rfl
        have y1 := (blk_cell s2 1).trans rfl
        have y2 := (blk_cell s2 2).trans rfl
        have y3 := (blk_cell s2 3).trans rfl
        go_simp
        with_reducible rfl
       rotate_left
       ·simp only [Act.put, List.setIfInBounds_toArray, List.set_cons_zero, List.set_cons_succ, i64_w, i32_w]
        rfl
       refine pure_ (i := 12) (N := some 72) (v := ?_) (a' := ?_) #[true, true, true, true, true, true, true, true, true, true, true, true, true, false, false, false, false, false, false] rfl rfl (by kernel_rfl) (fun _ _ _ h => h) (Or.inl ⟨by rfl, ?_⟩) ?_ ?_
       rotate_left
       ·intro w'
        go_simp
        with_reducible rfl
       rotate_left
       ·simp only [Act.put, List.setIfInBounds_toArray, List.set_cons_zero, List.set_cons_succ, i64_w, i32_w]
        rfl
       refine take_ (i := 13) (N := some 73) (v := ?_) (a' := ?_) #[true, true, true, true, true, true, true, true, true, true, true, true, true, true, false, false, false, false, false] rfl rfl (by kernel_rfl) (fun _ _ _ h => h) (Or.inl ⟨by rfl, ?_⟩) hHeld ?_ ?_
       rotate_left
       ·rintro w' ⟨s0, s1, s2⟩
        have z0 := (blk_cell s0 1).trans rfl
        have z1 := (blk_cell s1 a.f0.toNat).trans HV.out
        have y0 := (blk_cell s2 0).trans rfl
        have y1 := (blk_cell s2 1).trans rfl
        have y2 := (blk_cell s2 2).trans rfl
        have y3 := (blk_cell s2 3).trans rfl
        go_simp
        with_reducible rfl
       rotate_left
       ·simp only [Act.put, List.setIfInBounds_toArray, List.set_cons_zero, List.set_cons_succ, i64_w, i32_w]
        rfl
       refine take_ (i := 14) (N := some 74) (v := ?_) (a' := ?_) #[true, true, true, true, true, true, true, true, true, true, true, true, true, true, true, false, false, false, false] rfl rfl (by kernel_rfl) (fun _ _ _ h => h) (Or.inl ⟨by rfl, ?_⟩) hHeld ?_ ?_
       rotate_left
       ·rintro w' ⟨s0, s1, s2⟩
        have z0 := (blk_cell s0 1).trans rfl
        have z1 := (blk_cell s1 a.f0.toNat).trans HV.out
        have y0 := (blk_cell s2 0).trans rfl
        have y1 := (blk_cell s2 1).trans rfl
        have y2 := (blk_cell s2 2).trans rfl
        have y3 := (blk_cell s2 3).trans rfl
        go_simp
        with_reducible rfl
       rotate_left
       ·simp only [Act.put, List.setIfInBounds_toArray, List.set_cons_zero, List.set_cons_succ, i64_w, i32_w]
        rfl
       refine one_ (i := 15) (N := some 75) #[true, true, true, true, true, true, true, true, true, true, true, true, true, true, true, true, false, false, false] rfl rfl (by kernel_rfl) (by decide) (fun K hK => ?_)
       refine value_ (w1 := wr.drew.alloc (.cells #[.int .i64 a.f0, .int .i64 a.f1, .int .i64 a.f2, .int .i64 a.f3] 105)) (v := .slice (some ⟨wr.drew.heap.size, 0, none⟩) 1 1) (by rfl) rfl ?_ ?_
       ·go_simp
        try rfl
       refine hK.out _ _ ⟨blk_alloc hHeld.1 _, blk_alloc hHeld.2.1 _, blk_alloc hHeld.2.2 _⟩ (fun hHeld => ?_)
       clear hK K
       refine norm_ (a' := ?_) ?_ ?_
       rotate_left
       ·show Act.put _ (some 75) _ = _
        simp only [Act.put, List.setIfInBounds_toArray, List.set_cons_zero, List.set_cons_succ, i64_w, i32_w]
        rfl
       refine one_ (i := 16) (N := some 76) #[true, true, true, true, true, true, true, true, true, true, true, true, true, true, true, true, true, false, false] rfl rfl (by kernel_rfl) (by decide) (fun K hK => ?_)
       refine Kd.R_append_step k105 (w0 := w) w.heap.size (by rfl) (.tmp 73) (.tmp 75) 82 105 (.agg #[(.int .i64 0), (.int .i64 0), (.int .i64 0), (.int .i64 0)]) 32 rfl Try.underlying82 info105 rfl (by decide) (by omega) v row (a) [.int .i64 a.f0, .int .i64 a.f1, .int .i64 a.f2, .int .i64 a.f3] (fun _ => True) (fun _ => False) rfl rfl ?aP (fun _ hk => hk.elim) (fun _ _ => trivial) ?aO ?aB ?aS ?aL ?_
       (case aP => exact k105_mkM _ _ _ _)
       (case aO => exact Kd.R_drew HVR.out)
       (case aB => exact below_drew HB.out)
       (case aS => exact below_size (below_drew HB.out))
       (case aL => have := HLEN.out; omega)
       intro v1 w2 ho hb hgr hat
       refine hK.out _ _ ⟨blk_grown (blk_drew BG.out) hgr (Kd.R_ne HVR.out BG.out (by decide)), blk_grown (blk_drew HS.out.blk) hgr (Kd.R_ne HVR.out HS.out.blk (by decide)), blk_grown (blk_drew BT.out) hgr HVB.out⟩ (fun hHeld => ?_)
       clear hK K
       have HN := Aside0.mk (RowsAt.set (RowsAt.below HS.out (below_drew (Below.refl _ _))) (i := a.f0.toNat) (by simpa using HV.out) HROW.out ho hgr hat)
       have HB2 := Aside0.mk (below_set (j := a.f0.toNat) (v := v1) hb GO.out)
       have BG2 := Aside0.mk (blk_far hHeld.1 (p := ⟨ob, a.f0.toNat, none⟩) (HNE.out) v1)
       have HA2 := Aside0.mk (Kd.R_mono (ok' := fun _ => True) (Kd.R_far (p := ⟨ob, a.f0.toNat, none⟩) (Kd.R_step (Kd.R_tight rfl (Kd.R_drew HA.out)) (fun k hk hlt => hgr.block k hlt (fun e => HVO.out (hk.symm.trans e)))) (fun k hk => fun e => HBO.out ((Option.some.inj hk).symm.trans e)) v1) (fun _ _ => trivial))
       have HOFF2 := Aside0.mk (show ∀ (i : Nat) (u : Value), (vs.set a.f0.toNat v1)[i]? = some u → some b ≠ u.ownBlock from fun i u hu => by
        by_cases e : a.f0.toNat = i
        ·subst e
         rw [List.getElem?_set_self (by have := (Array.getElem?_eq_some_iff.1 HV.out).1; simpa using this)] at hu
         obtain rfl := Option.some.inj hu
         rcases hat with hat | ⟨c, hc, hle⟩
         ·rw [hat]; exact HVO.out
         ·rw [hc]; intro e; injection e with e; have := HBL.out; have : wr.heap.size ≤ c := hle; omega
        ·rw [List.getElem?_set_ne e] at hu
         exact HOFF.out i u hu)
       have zc : w2.cell? ⟨ob, a.f0.toNat, none⟩ = some v := (blk_cell hHeld.2.1 a.f0.toNat).trans HV.out
       have zf : w2.frozen? ⟨ob, a.f0.toNat, none⟩ = false := blk_frozen hHeld.2.1 _
       obtain ⟨Av, cv, hv1⟩ := Kd.R_slice ho
       subst hv1
       clear ho hb hgr hat
       refine norm_ (a' := ?_) ?_ ?_
       rotate_left
       ·show Act.put _ (some 76) _ = _
        simp only [Act.put, List.setIfInBounds_toArray, List.set_cons_zero, List.set_cons_succ, i64_w, i32_w]
        rfl
       refine pure_ (i := 17) (N := some 77) (v := ?_) (a' := ?_) #[true, true, true, true, true, true, true, true, true, true, true, true, true, true, true, true, true, true, false] rfl rfl (by kernel_rfl) (fun _ _ _ h => h) (Or.inl ⟨by rfl, ?_⟩) ?_ ?_
       rotate_left
       ·intro w'
        go_simp
        with_reducible rfl
       rotate_left
       ·simp only [Act.put, List.setIfInBounds_toArray, List.set_cons_zero, List.set_cons_succ, i64_w, i32_w]
        rfl
       refine last_ (i := 18) (N := none) #[true, true, true, true, true, true, true, true, true, true, true, true, true, true, true, true, true, true, true] rfl rfl (by kernel_rfl) (by decide) (fun K hK => ?_)
       refine skip_ (w1 := w2.setCell ⟨ob, a.f0.toNat, none⟩ (.slice Av (row ++ [a]).length cv)) (by rfl) rfl ?_ ?_
       ·go_simp
        try rfl
       refine hK.out _ _ ?_
       clear hK K zc zf
       refine done_ (by kernel_rfl) ?_
       have HN2 := Aside0.mk (show RowsAt _ w.heap.size ob _ (rowsOf (n + 1) (pre ++ L.take (j + 1))) by rw [HTK.out, ← List.append_assoc, rowsOf_snoc]; unfold addArc; rw [← HRD.out]; exact HN.out)
       clear hix hi0 ha0 ha1 HN hHeld
       generalize w2.setCell ⟨ob, a.f0.toNat, none⟩ (.slice Av (row ++ [a]).length cv) = w3 at HN2 BG2 HB2 HA2 ⊢
       go_wp2
       go_roundg (L.length - j - 1)
       case measure => have := HJ.out; omega
       case rel => exact ⟨j + 1, _, by go_num, ⟨by omega⟩, HN2, BG2, HA2, HOFF2, HB2⟩
      ·have HI := Aside0.mk (show j = L.length by have := HJ.out; omega)
       have HS := Aside0.mk (show RowsAt wr w.heap.size ob vs (rowsOf (n + 1) (natArcs n ++ (which.take (i + 1)).flatMap fun i => arcsOf n i (rd_T44 l i))) by have := HS.out; rw [HI.out, List.take_length, ← HPRE.out] at this; exact this)
       go_wp2
       go_roundg (which.length - i - 1)
       case measure => have := HK.out; omega
       case rel => exact ⟨i + 1, vs, by go_num, ⟨by omega⟩, HS, BG, HB⟩
    ·have HI := Aside0.mk (show i = which.length by have := HK.out; omega)
     have HS := Aside0.mk (show RowsAt wr w.heap.size ob vs (rowsOf (n + 1) (allArcs n l which)) by have := HS.out; rw [HI.out, List.take_length] at this; exact this)
     go_wp2
     go_ret
     exact ⟨g, ob, vs, rfl, BG.out, HS.out, GG.out, GO.out, HB.out⟩
end Go.Proofs.Ytegejpcglabhbaa.G
