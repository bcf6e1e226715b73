/- A part of this claim's proof: texts of its author, and printed ones, packed by a program of its author's. -/
import Derived.Test.YtegejpcglabhbaaCe3
import Derived.Test.YtegejpcglabhbaaCe7
import Derived.Test.YtegejpcglabhbaaCe8
namespace Go.Proofs.Ytegejpcglabhbaa.G
open Go.RowKit Go.Proofs.YtegejpcglabhbaaW.PrintWords Go.Proofs.YtegejpcglabhbaaW.PrintLast Go.Proofs.YtegejpcglabhbaaW.PrintMore
set_option linter.unusedVariables false
set_option linter.unusedSimpArgs false
section
theorem make_cells (P : Program) (t e : TypeId) (z : Value) (sz bytes : Nat) (ht : P.underlying t = some (.slice e)) (hinfo : (P.info? e).map (fun i => (i.zero, i.size, i.bytes)) = some (some z, sz, bytes)) (N : Nat) (hb : bytes * N ≤ 281474976710656) (hN : N ≤ 9223372036854775807) (W : World) :
  (Instr.makeSlice t (.int .i64 (N : Int)) (.int .i64 (N : Int))).run P W = .ok (.slice (some ⟨W.heap.size, 0, none⟩) N N) (W.alloc (.cells (madeCells z.cells (N * sz)) e)) := by
 obtain ⟨i, hi, hzz⟩ := Option.map_eq_some_iff.1 hinfo
 simp only [Prod.mk.injEq] at hzz
 obtain ⟨hz, hs, hb2⟩ := hzz
 have hb' : (i.bytes : Int) * (N : Int) ≤ 281474976710656 := by
  have h : ((i.bytes * N : Nat) : Int) ≤ 281474976710656 := by rw [hb2]; omega
  rwa [Int.natCast_mul] at h
 have hr := run_make (P := P) W t e i z ht hi hz .i64 .i64 N N (by omega) (Int.le_refl _) hb' (by omega)
 simp only [Int.toNat_natCast, hs] at hr
 exact hr
section
variable {α : Type} {f : α → List Value} {sz : Nat}
end
end
section
structure FSt where
 sum : List Int
 known : List Bool
 last : List S105
 waits : List Bool
 steps : List Int
inductive FRes where
 | loop (l : List S105)
 | done (s : FSt)
def FSt.up (s : FSt) (x : Nat) (a : S105) : FSt :=
 { s with sum := s.sum.set a.f1.toNat (wrap64 (s.sum.getD x 0 + a.f2)), known := s.known.set a.f1.toNat true, last := s.last.set a.f1.toNat a, steps := s.steps.set a.f1.toNat (wrap64 (s.steps.getD x 0 + 1)) }
def relax (k : Nat) (n start : Int) (x : Nat) : List S105 → FSt → List Int → Option (List S105 ⊕ (FSt × List Int))
 | [], s, q => some (.inr (s, q))
 | a :: rs, s, q =>
  if s.known.getD a.f1.toNat false = true ∧ wrap64 (s.sum.getD x 0 + a.f2) ≤ s.sum.getD a.f1.toNat 0 then relax k n start x rs s q
  else (if a.f1 = start ∨ n < (s.up x a).steps.getD a.f1.toNat 0 then graph_loops.f k (s.up x a).last a.f1 n else some []).bind fun l =>
   if l.isEmpty = true then
    if s.waits.getD a.f1.toNat false = true then relax k n start x rs (s.up x a) q
    else relax k n start x rs { s.up x a with waits := s.waits.set a.f1.toNat true } (q ++ [a.f1])
   else some (.inl l)
def farL (n start : Int) (rows : List (List S105)) : Nat → FSt → List Int → Option FRes
 | 0, _, _ => none
 | _ + 1, s, [] => some (.done s)
 | k + 1, s, x :: q => (relax k n start x.toNat (rows.getD x.toNat []) { s with waits := s.waits.set x.toNat false } q).bind fun r => match r with
  | .inl l => some (.loop l)
  | .inr p => farL n start rows k p.1 p.2
def farInit (n : Nat) (start : Int) : FSt := ⟨List.replicate (n + 1) 0, (List.replicate (n + 1) false).set start.toNat true, List.replicate (n + 1) ⟨0, 0, 0, -2⟩, List.replicate (n + 1) false, List.replicate (n + 1) 0⟩
def far (k : Nat) (n : Nat) (start : Int) (rows : List (List S105)) : Option FRes := farL n start rows k (farInit n start) [start]
def encI (l : List Int) : Array Value := (l.map (Value.int .i64)).toArray
def encB (l : List Bool) : Array Value := (l.map Value.bool).toArray
def cell4 (a : S105) : List Value := [.int .i64 a.f0, .int .i64 a.f1, .int .i64 a.f2, .int .i64 a.f3]
def encA (l : List S105) : Array Value := (l.flatMap cell4).toArray
theorem encI_get {l : List Int} {i : Nat} (h : i < l.length) : (encI l)[i]? = some (.int .i64 (l.getD i 0)) := by
 simp [encI, List.getD_eq_getElem?_getD, List.getElem?_eq_getElem h]
theorem encB_get {l : List Bool} {i : Nat} (h : i < l.length) : (encB l)[i]? = some (.bool (l.getD i false)) := by
 simp [encB, List.getD_eq_getElem?_getD, List.getElem?_eq_getElem h]
theorem encI_set (l : List Int) (i : Nat) (x : Int) : (encI l).setIfInBounds i (.int .i64 x) = encI (l.set i x) := by
 simp [encI, List.map_set]
theorem encB_set (l : List Bool) (i : Nat) (x : Bool) : (encB l).setIfInBounds i (.bool x) = encB (l.set i x) := by
 simp [encB, List.map_set]
theorem cell4_len (a : S105) : (cell4 a).length = 4 := rfl
theorem encA_list_get : ∀ (l : List S105) (i j : Nat) (a : S105), l[i]? = some a → j < 4 → (l.flatMap cell4)[i * 4 + j]? = (cell4 a)[j]? := by
 intro l
 induction l with
 | nil => intro i j a h; simp at h
 | cons b l ih =>
  intro i j a h hj
  rw [List.flatMap_cons]
  cases i with
  | zero =>
   simp only [List.getElem?_cons_zero, Option.some.injEq] at h
   subst h
   rw [Nat.zero_mul, Nat.zero_add, List.getElem?_append_left (by rw [cell4_len]; exact hj)]
  | succ i =>
   rw [List.getElem?_cons_succ] at h
   rw [List.getElem?_append_right (by rw [cell4_len]; omega), cell4_len, show (i + 1) * 4 + j - 4 = i * 4 + j by omega]
   exact ih i j a h hj
theorem encA_get {l : List S105} {i : Nat} {a : S105} (h : l[i]? = some a) : (encA l)[i * 4]? = some (.int .i64 a.f0) ∧ (encA l)[i * 4 + 1]? = some (.int .i64 a.f1) ∧ (encA l)[i * 4 + 2]? = some (.int .i64 a.f2) ∧ (encA l)[i * 4 + 3]? = some (.int .i64 a.f3) := by
 have h0 := encA_list_get l i 0 a h (by omega)
 have h1 := encA_list_get l i 1 a h (by omega)
 have h2 := encA_list_get l i 2 a h (by omega)
 have h3 := encA_list_get l i 3 a h (by omega)
 simp only [encA, List.getElem?_toArray]
 exact ⟨h0, h1, h2, h3⟩
theorem encA_list_set : ∀ (l : List S105) (i : Nat) (a : S105), i < l.length →
  ((((l.flatMap cell4).set (i * 4) (.int .i64 a.f0)).set (i * 4 + 1) (.int .i64 a.f1)).set (i * 4 + 2) (.int .i64 a.f2)).set (i * 4 + 3) (.int .i64 a.f3) = (l.set i a).flatMap cell4 := by
 intro l
 induction l with
 | nil => intro i a h; simp at h
 | cons b l ih =>
  intro i a h
  cases i with
  | zero => simp [cell4]
  | succ i =>
   rw [List.set_cons_succ, List.flatMap_cons, List.flatMap_cons, ← ih i a (by simpa using h)]
   have e : ∀ (j : Nat) (v : Value) (m : List Value), (cell4 b ++ m).set ((i + 1) * 4 + j) v = cell4 b ++ m.set (i * 4 + j) v := fun j v m => by
    rw [List.set_append_right _ _ (by rw [cell4_len]; omega), cell4_len, show (i + 1) * 4 + j - 4 = i * 4 + j by omega]
   have e0 := e 0
   simp only [Nat.add_zero] at e0
   rw [e0, e 1, e 2, e 3]
theorem encA_set (l : List S105) (i : Nat) (a : S105) (h : i < l.length) :
  ((((encA l).setIfInBounds (i * 4) (.int .i64 a.f0)).setIfInBounds (i * 4 + 1) (.int .i64 a.f1)).setIfInBounds (i * 4 + 2) (.int .i64 a.f2)).setIfInBounds (i * 4 + 3) (.int .i64 a.f3) = encA (l.set i a) := by
 simp only [encA, List.setIfInBounds_toArray]
 rw [encA_list_set l i a h]
structure Chain (w : World) (base : Nat) (bl : List Nat) (q : List Int) : Prop where
 len : bl.length = q.length
 nodup : bl.Nodup
 cell : ∀ (i b : Nat) (x : Int), bl[i]? = some b → q[i]? = some x → w.heap[b]? = some (.cells #[.int .i64 x, .pointer ((bl[i + 1]?).map fun c => ⟨c, 0, none⟩)] 129 (0, 0))
 ge : ∀ b ∈ bl, base ≤ b
theorem Chain.move {w w1 : World} {base : Nat} {bl : List Nat} {q : List Int} (h : Chain w base bl q) (hm : ∀ b ∈ bl, w1.heap[b]? = w.heap[b]?) : Chain w1 base bl q :=
 ⟨h.len, h.nodup, fun i b x hb hx => (hm b (List.mem_of_getElem? hb)).trans (h.cell i b x hb hx), h.ge⟩
theorem Chain.at_ {w : World} {base : Nat} {bl : List Nat} {q : List Int} (h : Chain w base bl q) {b : Nat} (hb : b ∈ bl) : ∃ cs, w.heap[b]? = some (.cells cs 129 (0, 0)) := by
 obtain ⟨i, hi, rfl⟩ := List.mem_iff_getElem.1 hb
 have hq : i < q.length := by have := h.len; omega
 exact ⟨_, h.cell i _ _ (List.getElem?_eq_getElem hi) (List.getElem?_eq_getElem hq)⟩
theorem Chain.lt {w : World} {base : Nat} {bl : List Nat} {q : List Int} (h : Chain w base bl q) {b : Nat} (hb : b ∈ bl) : b < w.heap.size := by
 obtain ⟨cs, hc⟩ := h.at_ hb
 exact blk_lt hc
theorem Chain.one (w : World) (base b : Nat) (x : Int) (hb : base ≤ b) (h : w.heap[b]? = some (.cells #[.int .i64 x, .pointer none] 129 (0, 0))) : Chain w base [b] [x] := by
 refine ⟨rfl, by simp, ?_, by simpa using hb⟩
 intro i c y hc hy
 cases i with
 | zero =>
  simp only [List.getElem?_cons_zero, Option.some.injEq] at hc hy
  subst hc
  subst hy
  exact h
 | succ i => simp at hc
theorem Chain.tail {w : World} {base b : Nat} {x : Int} {bl : List Nat} {q : List Int} (h : Chain w base (b :: bl) (x :: q)) : Chain w base bl q :=
 ⟨by have := h.len; simpa using this, (List.nodup_cons.1 h.nodup).2, fun i c y hc hy => h.cell (i + 1) c y (by simpa using hc) (by simpa using hy), fun c hc => h.ge c (List.mem_cons_of_mem _ hc)⟩
theorem Chain.head {w : World} {base b : Nat} {x : Int} {bl : List Nat} {q : List Int} (h : Chain w base (b :: bl) (x :: q)) : w.heap[b]? = some (.cells #[.int .i64 x, .pointer (bl.head?.map fun c => ⟨c, 0, none⟩)] 129 (0, 0)) := by
 have := h.cell 0 b x rfl rfl
 rw [show (b :: bl)[0 + 1]? = bl.head? by cases bl <;> rfl] at this
 exact this
theorem Chain.push {w w1 : World} {base e d : Nat} {y : Int} {bl : List Nat} {q : List Int} (h : Chain w base bl q) (he : bl.getLast? = some e)
  (hold : ∀ b ∈ bl, b ≠ e → w1.heap[b]? = w.heap[b]?) (hend : ∀ (x : Int), w.heap[e]? = some (.cells #[.int .i64 x, .pointer none] 129 (0, 0)) → w1.heap[e]? = some (.cells #[.int .i64 x, .pointer (some ⟨d, 0, none⟩)] 129 (0, 0)))
  (hnew : w1.heap[d]? = some (.cells #[.int .i64 y, .pointer none] 129 (0, 0))) (hd : d ∉ bl) (hbase : base ≤ d) : Chain w1 base (bl ++ [d]) (q ++ [y]) := by
 have hlen := h.len
 refine ⟨by simp [hlen], ?_, ?_, ?_⟩
 ·rw [List.nodup_append]
  refine ⟨h.nodup, by simp, ?_⟩
  intro a ha b hb e2
  simp only [List.mem_singleton] at hb
  subst hb
  subst e2
  exact hd ha
 ·intro i b x hb hx
  by_cases hi : i < bl.length
  ·rw [List.getElem?_append_left hi] at hb
   rw [List.getElem?_append_left (by omega)] at hx
   have hc := h.cell i b x hb hx
   have hmem := List.mem_of_getElem? hb
   by_cases hl : i + 1 < bl.length
   ·rw [List.getElem?_append_left hl]
    have hne : b ≠ e := by
     intro e2
     subst e2
     rw [List.getLast?_eq_getElem?] at he
     have := (List.getElem?_inj (by omega) h.nodup).1 (hb.trans he.symm)
     omega
    exact (hold b hmem hne).trans hc
   ·have hlast : i + 1 = bl.length := by omega
    rw [List.getElem?_append_right (by omega), hlast, Nat.sub_self]
    have hbe : b = e := by
     rw [List.getLast?_eq_getElem?, show bl.length - 1 = i by omega, hb] at he
     exact Option.some.inj he
    subst hbe
    rw [List.getElem?_eq_none (by omega)] at hc
    exact hend x hc
  ·rw [List.getElem?_append_right (by omega)] at hb hx
   have hi2 : i = bl.length := by
    rcases Nat.lt_or_ge (i - bl.length) 1 with h2 | h2
    ·omega
    ·rw [List.getElem?_eq_none (by simpa using h2)] at hb
     cases hb
   rw [hi2, Nat.sub_self] at hb
   rw [hi2, hlen, Nat.sub_self] at hx
   simp only [List.getElem?_cons_zero, Option.some.injEq] at hb hx
   subst hb
   subst hx
   rw [List.getElem?_eq_none (by simp [hi2])]
   exact hnew
 ·intro b hb
  rcases List.mem_append.1 hb with hb | hb
  ·exact h.ge b hb
  ·simp only [List.mem_singleton] at hb
   subst hb
   exact hbase
structure FBl where
 s : Nat
 k : Nat
 l : Nat
 w : Nat
 t : Nat
structure FarAt (w0 w : World) (g ob n : Nat) (B : FBl) (st : FSt) (bl : List Nat) (q : List Int) : Prop where
 below : Below w0.heap.size w0 w
 net : w.heap[g]? = some (.cells #[.int .i64 (n : Int), .slice (some ⟨ob, 0, none⟩) (n + 1) (n + 1)] 103 (0, 0))
 sum : w.heap[B.s]? = some (.cells (encI st.sum) 3 (0, 0))
 known : w.heap[B.k]? = some (.cells (encB st.known) 4 (0, 0))
 last : w.heap[B.l]? = some (.cells (encA st.last) 105 (0, 0))
 waits : w.heap[B.w]? = some (.cells (encB st.waits) 4 (0, 0))
 steps : w.heap[B.t]? = some (.cells (encI st.steps) 3 (0, 0))
 lsum : st.sum.length = n + 1
 lknown : st.known.length = n + 1
 llast : st.last.length = n + 1
 lwaits : st.waits.length = n + 1
 lsteps : st.steps.length = n + 1
 gs : w0.heap.size ≤ B.s
 gk : w0.heap.size ≤ B.k
 gl : w0.heap.size ≤ B.l
 gw : w0.heap.size ≤ B.w
 gt : w0.heap.size ≤ B.t
 gg : g < w0.heap.size
 nst : B.s ≠ B.t
 nkw : B.k ≠ B.w
 chain : Chain w w0.heap.size bl q
 range : ∀ x ∈ q, 0 ≤ x ∧ x ≤ (n : Int)
theorem FarAt.grow {w0 w w1 : World} {g ob n : Nat} {B : FBl} {st : FSt} {bl : List Nat} {q : List Int} (h : FarAt w0 w g ob n B st bl q) (hb : Below w.heap.size w w1) : FarAt w0 w1 g ob n B st bl q :=
 { h with
  below := below_step h.below hb, net := blk_below h.net hb, sum := blk_below h.sum hb, known := blk_below h.known hb, last := blk_below h.last hb, waits := blk_below h.waits hb, steps := blk_below h.steps hb,
  chain := h.chain.move fun b hb2 => hb.block b (h.chain.lt hb2) }
theorem ty_ne {w : World} {a b : Nat} {t u : TypeId} {cs ds : Array Value} (ha : w.heap[a]? = some (.cells cs t (0, 0))) (hb : w.heap[b]? = some (.cells ds u (0, 0))) (h : t ≠ u) : a ≠ b := fun e => by
 rw [e, hb] at ha
 injection ha with ha
 injection ha with _ ha
 exact h ha.symm
theorem Chain.far {w : World} {base : Nat} {bl : List Nat} {q : List Int} (h : Chain w base bl q) {p : Addr} {cs : Array Value} {t : TypeId} (hp : w.heap[p.block]? = some (.cells cs t (0, 0))) (ht : 129 ≠ t) (v : Value) : Chain (w.setCell p v) base bl q :=
 h.move fun b hb => by
  obtain ⟨ds, hd⟩ := h.at_ hb
  rw [blk_far hd (ty_ne hd hp ht) v, hd]
theorem FarAt.ng {w0 w : World} {g ob n : Nat} {B : FBl} {st : FSt} {bl : List Nat} {q : List Int} (h : FarAt w0 w g ob n B st bl q) {b : Nat} (hb : w0.heap.size ≤ b) : g ≠ b := Nat.ne_of_lt (Nat.lt_of_lt_of_le h.gg hb)
section
variable {w0 w : World} {g ob n : Nat} {B : FBl} {st : FSt} {bl : List Nat} {q : List Int}
theorem FarAt.putK (h : FarAt w0 w g ob n B st bl q) (t : Nat) (v : Bool) : FarAt w0 (w.setCell ⟨B.k, t, none⟩ (.bool v)) g ob n B { st with known := st.known.set t v } bl q :=
 { h with below := below_set h.below h.gk, net := blk_far h.net (h.ng h.gk) _, known := blk_put h.known t _ (encB_set _ _ _), lknown := by simp [h.lknown], chain := h.chain.far h.known (by decide) _, sum := blk_far h.sum (ty_ne h.sum h.known (by decide)) _, last := blk_far h.last (ty_ne h.last h.known (by decide)) _, waits := blk_far h.waits (Ne.symm h.nkw) _, steps := blk_far h.steps (ty_ne h.steps h.known (by decide)) _ }
theorem FarAt.putW (h : FarAt w0 w g ob n B st bl q) (t : Nat) (v : Bool) : FarAt w0 (w.setCell ⟨B.w, t, none⟩ (.bool v)) g ob n B { st with waits := st.waits.set t v } bl q :=
 { h with below := below_set h.below h.gw, net := blk_far h.net (h.ng h.gw) _, waits := blk_put h.waits t _ (encB_set _ _ _), lwaits := by simp [h.lwaits], chain := h.chain.far h.waits (by decide) _, sum := blk_far h.sum (ty_ne h.sum h.waits (by decide)) _, known := blk_far h.known h.nkw _, last := blk_far h.last (ty_ne h.last h.waits (by decide)) _, steps := blk_far h.steps (ty_ne h.steps h.waits (by decide)) _ }
theorem encA_set3 (l : List S105) (i : Nat) (a : S105) (v : Int) (ha : l[i]? = some a) : (encA l).setIfInBounds (i * 4 + 3) (.int .i64 v) = encA (l.set i { a with f3 := v }) := by
 have hi := (List.getElem?_eq_some_iff.1 ha).1
 rw [← encA_set l i _ hi]
 have h := encA_get ha
 apply Array.ext_getElem?
 intro j
 by_cases e3 : i * 4 + 3 = j
 ·subst e3
  by_cases hj : i * 4 + 3 < (encA l).size
  ·rw [Array.getElem?_setIfInBounds_self_of_lt hj, Array.getElem?_setIfInBounds_self_of_lt (by simpa using hj)]
  ·rw [Array.getElem?_eq_none (by simpa using hj), Array.getElem?_eq_none (by simpa using hj)]
 ·rw [Array.getElem?_setIfInBounds_ne e3, Array.getElem?_setIfInBounds_ne e3]
  by_cases e2 : i * 4 + 2 = j
  ·subst e2
   have hj := (Array.getElem?_eq_some_iff.1 h.2.2.1).1
   rw [Array.getElem?_setIfInBounds_self_of_lt (by simpa using hj), h.2.2.1]
  ·rw [Array.getElem?_setIfInBounds_ne e2]
   by_cases e1 : i * 4 + 1 = j
   ·subst e1
    have hj := (Array.getElem?_eq_some_iff.1 h.2.1).1
    rw [Array.getElem?_setIfInBounds_self_of_lt (by simpa using hj), h.2.1]
   ·rw [Array.getElem?_setIfInBounds_ne e1]
    by_cases e0 : i * 4 = j
    ·subst e0
     have hj := (Array.getElem?_eq_some_iff.1 h.1).1
     rw [Array.getElem?_setIfInBounds_self_of_lt (by simpa using hj), h.1]
    ·rw [Array.getElem?_setIfInBounds_ne e0]
theorem FarAt.putL3 (h : FarAt w0 w g ob n B st bl q) (i : Nat) (a : S105) (v : Int) (ha : st.last[i]? = some a) : FarAt w0 (w.setCell ⟨B.l, i * 4 + 3, none⟩ (.int .i64 v)) g ob n B { st with last := st.last.set i { a with f3 := v } } bl q :=
 { h with below := below_set h.below h.gl, net := blk_far h.net (h.ng h.gl) _, last := blk_put h.last _ _ (encA_set3 _ _ _ _ ha), llast := by simp [h.llast], chain := h.chain.far h.last (by decide) _, sum := blk_far h.sum (ty_ne h.sum h.last (by decide)) _, known := blk_far h.known (ty_ne h.known h.last (by decide)) _, waits := blk_far h.waits (ty_ne h.waits h.last (by decide)) _, steps := blk_far h.steps (ty_ne h.steps h.last (by decide)) _ }
end
def lastN (n i : Nat) : List S105 := List.replicate i ⟨0, 0, 0, -2⟩ ++ List.replicate (n + 1 - i) ⟨0, 0, 0, 0⟩
theorem lastN_get {n i : Nat} (h : i < n + 1) : (lastN n i)[i]? = some ⟨0, 0, 0, 0⟩ := by
 unfold lastN
 rw [List.getElem?_append_right (by simp), List.length_replicate, Nat.sub_self, List.getElem?_replicate, if_pos (by omega)]
theorem lastN_set {n i : Nat} (h : i < n + 1) : (lastN n i).set i ⟨0, 0, 0, -2⟩ = lastN n (i + 1) := by
 unfold lastN
 rw [List.set_append_right _ _ (by simp), List.length_replicate, Nat.sub_self, show n + 1 - i = (n + 1 - (i + 1)) + 1 by omega, List.replicate_succ, List.set_cons_zero, List.replicate_succ', List.append_assoc]
 rfl
theorem lastN_end (n : Nat) : lastN n (n + 1) = List.replicate (n + 1) ⟨0, 0, 0, -2⟩ := by simp [lastN]
theorem lastN_length (n i : Nat) (h : i ≤ n + 1) : (lastN n i).length = n + 1 := by simp [lastN]; omega
section
variable {w0 w : World} {g ob n : Nat} {B : FBl} {st : FSt} {bl : List Nat} {q : List Int}
theorem FarAt.first (h : FarAt w0 w g ob n B st [] []) (x : Int) (h0 : 0 ≤ x) (h1 : x ≤ n) : FarAt w0 (w.alloc (.cells #[.int .i64 x, .pointer none] 129)) g ob n B st [w.heap.size] [x] :=
 { h.grow (below_alloc (Below.refl _ _) _) with chain := Chain.one _ _ _ _ h.below.size (blk_new _ _), range := by simpa using ⟨h0, h1⟩ }
theorem FarAt.pop {b : Nat} {x : Int} (h : FarAt w0 w g ob n B st (b :: bl) (x :: q)) : FarAt w0 w g ob n B st bl q :=
 { h with chain := h.chain.tail, range := fun y hy => h.range y (List.mem_cons_of_mem _ hy) }
theorem FarAt.push {e : Nat} (h : FarAt w0 w g ob n B st bl q) (he : bl.getLast? = some e) (y : Int) (h0 : 0 ≤ y) (h1 : y ≤ n) :
  FarAt w0 ((w.alloc (.cells #[.int .i64 y, .pointer none] 129)).setCell ⟨e, 1, none⟩ (.pointer (some ⟨w.heap.size, 0, none⟩))) g ob n B st (bl ++ [w.heap.size]) (q ++ [y]) := by
 have hem : e ∈ bl := List.mem_of_getLast? he
 obtain ⟨cs, hc⟩ := h.chain.at_ hem
 have h2 := h.grow (below_alloc (Below.refl w.heap.size w) (.cells #[.int .i64 y, .pointer none] 129))
 have hc2 := blk_alloc hc (.cells #[.int .i64 y, .pointer none] 129)
 have hlt : e < w.heap.size := h.chain.lt hem
 refine { h2 with below := below_set h2.below (h.chain.ge e hem), net := blk_far h2.net (h.ng (h.chain.ge e hem)) _, sum := blk_far h2.sum (ty_ne h2.sum hc2 (by decide)) _, known := blk_far h2.known (ty_ne h2.known hc2 (by decide)) _, last := blk_far h2.last (ty_ne h2.last hc2 (by decide)) _, waits := blk_far h2.waits (ty_ne h2.waits hc2 (by decide)) _, steps := blk_far h2.steps (ty_ne h2.steps hc2 (by decide)) _, chain := ?_, range := ?_ }
 ·refine h.chain.push he ?_ ?_ ?_ ?_ h.below.size
  ·intro b hb hne
   obtain ⟨ds, hd⟩ := h.chain.at_ hb
   rw [blk_far (blk_alloc hd _) hne _, hd]
  ·intro x hx
   exact blk_put (blk_alloc hx _) 1 _ rfl
  ·exact blk_far (blk_new _ _) (fun e2 => absurd hlt (by show ¬ e < w.heap.size; have e3 : w.heap.size = e := e2; omega)) _
  ·intro hm
   exact Nat.lt_irrefl _ (h.chain.lt hm)
 ·intro z hz
  rcases List.mem_append.1 hz with hz | hz
  ·exact h.range z hz
  ·rw [List.mem_singleton] at hz
   subst hz
   exact ⟨h0, h1⟩
end
theorem encA_C {w : World} {b : Nat} {l : List S105} (h : w.heap[b]? = some (.cells (encA l) 105 (0, 0))) (hl : l.length ≤ 9223372036854775807) : Kd.C k105 w (some ⟨b, 0, none⟩) l.length l :=
 ⟨rfl, hl, fun _ => ⟨⟨b, 0, none⟩, rfl, fun j p hj => ⟨cell4 p, rfl, k105_mk w p, fun i u hu => by
  have hi : i < 4 := by have := (List.getElem?_eq_some_iff.1 hu).1; rw [cell4_len] at this; exact this
  rw [add_plain]
  refine (blk_cell h _).trans ?_
  simp only [encA, List.getElem?_toArray]
  exact (encA_list_get l j i p hj hi).trans hu⟩⟩⟩
def FarOut (w w' : World) (n : Nat) (v4 v5 v6 v7 : Value) : FRes → Prop
 | .loop l => v4 = .slice none 0 0 ∧ v5 = .slice none 0 0 ∧ v6 = .slice none 0 0 ∧ l ≠ [] ∧ Kd.R k105 105 w' w.heap.size (fun _ => True) v7 l
 | .done s => ∃ bs bk bl : Nat, v4 = .slice (some ⟨bs, 0, none⟩) (n + 1) (n + 1) ∧ v5 = .slice (some ⟨bk, 0, none⟩) (n + 1) (n + 1) ∧ v6 = .slice (some ⟨bl, 0, none⟩) (n + 1) (n + 1) ∧ v7 = .slice none 0 0 ∧
   w'.heap[bs]? = some (.cells (encI s.sum) 3 (0, 0)) ∧ w'.heap[bk]? = some (.cells (encB s.known) 4 (0, 0)) ∧ w'.heap[bl]? = some (.cells (encA s.last) 105 (0, 0)) ∧
   s.sum.length = n + 1 ∧ s.known.length = n + 1 ∧ s.last.length = n + 1 ∧ w.heap.size ≤ bs ∧ w.heap.size ≤ bk ∧ w.heap.size ≤ bl
theorem FarAt.drew {w0 w : World} {g ob n : Nat} {B : FBl} {st : FSt} {bl : List Nat} {q : List Int} (h : FarAt w0 w g ob n B st bl q) : FarAt w0 w.drew g ob n B st bl q := h.grow (below_drew (Below.refl _ _))
theorem FarAt.drewN {w0 w : World} {g ob n : Nat} {B : FBl} {st : FSt} {bl : List Nat} {q : List Int} (h : FarAt w0 w g ob n B st bl q) (m : Nat) : FarAt w0 (w.drewN m) g ob n B st bl q := h.grow (pw_below_drewN (Below.refl _ _) m)
theorem FarAt.endCell {w0 w : World} {g ob n e : Nat} {B : FBl} {st : FSt} {bl : List Nat} {q : List Int} (h : FarAt w0 w g ob n B st bl q) (he : bl.getLast? = some e) : ∃ x : Int, w.heap[e]? = some (.cells #[.int .i64 x, .pointer none] 129 (0, 0)) := by
 have hl := h.chain.len
 rw [List.getLast?_eq_getElem?] at he
 have h1 := (List.getElem?_eq_some_iff.1 he).1
 have h2 := h.chain.cell _ e _ he (List.getElem?_eq_getElem (show bl.length - 1 < q.length by omega))
 rw [List.getElem?_eq_none (by omega)] at h2
 exact ⟨_, h2⟩
theorem Chain.ne105 {w : World} {base b : Nat} {bl : List Nat} {q : List Int} {cs : Array Value} {o : Nat} (h : Chain w base bl q) (ho : w.heap[o]? = some (.cells cs 105 (0, 0))) (hb : b ∈ bl) : b ≠ o := by
 obtain ⟨ds, hd⟩ := h.at_ hb
 exact ty_ne hd ho (by decide)
theorem set4_far (W : World) (o i : Nat) (u0 u1 u2 u3 : Value) (b : Nat) (h : b ≠ o) : ((((W.setCell ⟨o, i, none⟩ u0).setCell ⟨o, i + 1, none⟩ u1).setCell ⟨o, i + 2, none⟩ u2).setCell ⟨o, i + 3, none⟩ u3).heap[b]? = W.heap[b]? := by
 rw [Below.heap_setCell _ _ _ _ h, Below.heap_setCell _ _ _ _ h, Below.heap_setCell _ _ _ _ h, Below.heap_setCell _ _ _ _ h]
theorem set4_put (W : World) (o : Nat) (l : List S105) (i : Nat) (a : S105) (hi : i < l.length) (h : W.heap[o]? = some (.cells (encA l) 105 (0, 0))) :
  ((((W.setCell ⟨o, i * 4, none⟩ (.int .i64 a.f0)).setCell ⟨o, i * 4 + 1, none⟩ (.int .i64 a.f1)).setCell ⟨o, i * 4 + 2, none⟩ (.int .i64 a.f2)).setCell ⟨o, i * 4 + 3, none⟩ (.int .i64 a.f3)).heap[o]? = some (.cells (encA (l.set i a)) 105 (0, 0)) :=
 blk_put (blk_put (blk_put (blk_put h _ _ rfl) _ _ rfl) _ _ rfl) _ _ (encA_set l i a hi)
theorem relax_cons (k : Nat) (n start : Int) (x t : Nat) (a0 aw ab : Int) (rs : List S105) (s : FSt) (q : List Int) :
  relax k n start x (⟨a0, (t : Int), aw, ab⟩ :: rs) s q = if s.known.getD t false = true ∧ wrap64 (s.sum.getD x 0 + aw) ≤ s.sum.getD t 0 then relax k n start x rs s q
   else (if (t : Int) = start ∨ n < (s.up x ⟨a0, (t : Int), aw, ab⟩).steps.getD t 0 then graph_loops.f k (s.up x ⟨a0, (t : Int), aw, ab⟩).last (t : Int) n else some []).bind fun l =>
    if l.isEmpty = true then
     if (s.up x ⟨a0, (t : Int), aw, ab⟩).waits.getD t false = true then relax k n start x rs (s.up x ⟨a0, (t : Int), aw, ab⟩) q
     else relax k n start x rs { s.up x ⟨a0, (t : Int), aw, ab⟩ with waits := (s.up x ⟨a0, (t : Int), aw, ab⟩).waits.set t true } (q ++ [(t : Int)])
    else some (.inl l) := rfl
end
end Go.Proofs.Ytegejpcglabhbaa.G
