/- A part of this claim's proof: texts of its author, and printed ones, packed by a program of its author's. -/
import Derived.Test.YtegejpcglabhbaaCe3
import Derived.Lib.SliceRun
import Derived.WalkSpells
import Derived.Test.YtegejpcglabhbaaCe11
import Derived.Test.YtegejpcglabhbaaCe16
import Derived.Test.YtegejpcglabhbaaCe19
import Derived.Test.YtegejpcglabhbaaCe22
import Derived.Test.YtegejpcglabhbaaCe21
namespace Go.Proofs.Ytegejpcglabhbaa.G
open Go.RowKit Go.Proofs.YtegejpcglabhbaaW.PrintWords Go.Proofs.YtegejpcglabhbaaW.PrintLast Go.Proofs.YtegejpcglabhbaaW.PrintMore
set_option linter.unusedVariables false
set_option linter.unusedSimpArgs false
section
def nums (k : IntKind) (xs : List Int) : List Value := xs.map fun x => .int k x
section
variable {P : Program} {ops : Array Oper} {rest : List Oper} {o : Oper} {a : Act} {Q : Exit → Act → World → Prop}
theorem print_append_row {w0 W : World} (base : Nat) (hgd : o.guard = none) (s x : Operand) (t e : TypeId) (k : IntKind) (bytes : Nat)
  (ho : o.op = .call { callee := .builtin .append, args := #[s, x], argTypes := #[t, t] })
  (ht : P.underlying t = some (.slice e)) (hinfo : (P.info? e).map (fun i => (i.zero, i.size, i.bytes)) = some (some (.int k 0), 1, bytes)) (hb0 : 0 < bytes)
  (v : Value) (xs ys : List Int) (A : Option Addr) (m c : Nat) (hs : a.eval s = v) (hx : a.eval x = .slice A m c)
  (HO : W.ownsRow base e 1 v xs.length (nums k xs)) (HR : ReadsInt W k A m ys) (HB : Below base w0 W) (hbase : base ≤ W.heap.size) (hl : (xs.length + m) * bytes ≤ 140737488355328)
  (h : ∀ v1 w1, w1.ownsRow base e 1 v1 (xs ++ ys).length (nums k (xs ++ ys)) → Below base w0 w1 → W.grownBy w1 v.ownBlock → (v1.ownBlock = v.ownBlock ∨ ∃ b, v1.ownBlock = some b ∧ W.heap.size ≤ b) → wpList P ops Q rest (a.put o.dst v1) w1) :
  wpList P ops Q (o :: rest) a W := by
 obtain ⟨i0, hi, hzz⟩ := Option.map_eq_some_iff.1 hinfo
 simp only [Prod.mk.injEq] at hzz
 obtain ⟨hz0, hz1, hz2⟩ := hzz
 have hm : ys.length = m := HR.1
 have hlen : xs.length + m ≤ 140737488355328 := Nat.le_trans (Nat.le_mul_of_pos_right _ hb0) hl
 have hrun : ∃ v1 w1, (Builtin.append_ #[t, t] o.type #[v, .slice A m c]).run P W = .ok v1 w1 ∧ w1.ownsRow base e 1 v1 (xs ++ ys).length (nums k (xs ++ ys)) ∧ W.grownBy w1 v.ownBlock ∧ (v1.ownBlock = v.ownBlock ∨ v1.ownBlock = some W.heap.size) := by
  rcases A with _ | ad
  ·have h0 : m = 0 := by
    rcases Nat.eq_zero_or_pos m with h0 | h0
    ·exact h0
    ·obtain ⟨ad, h, _⟩ := HR.2.2 h0
     cases h
   subst h0
   obtain rfl : ys = [] := List.eq_nil_of_length_eq_zero hm
   refine ⟨v, W, ?_, by simpa using HO, World.grownBy.refl W _, .inl rfl⟩
   rcases HO.2 with ⟨rfl, hn⟩ | ⟨g, cap, cur, rfl, _, _, hnc, _⟩
   ·simp [Builtin.append_, run_underlying ht, sizeOf, typeInfo, hi, Builtin.lenOf, Builtin.firstCells]
   ·simp [Builtin.append_, run_underlying ht, sizeOf, typeInfo, hi, Builtin.lenOf, Builtin.firstCells, hnc, storeCells]
  ·have hcells : ∀ j u, (nums k ys)[j]? = some u → W.cell? (ad.add j) = some u := by
    intro j u hu
    have hj : j < ys.length := by
     rcases Nat.lt_or_ge j ys.length with h | h
     ·exact h
     ·simp [nums, List.getElem?_eq_none h] at hu
    obtain ⟨ad', h', hc⟩ := HR.2.2 (by omega)
    injection h' with h'
    subst h'
    have := hc j (by omega)
    simp [nums, List.getElem?_eq_getElem hj] at hu
    subst hu
    rw [this]
    simp [List.getD_eq_getElem?_getD, List.getElem?_eq_getElem hj]
   obtain ⟨v1, w1, hr, h2, h3, _, h5⟩ := run_append_own_at (P := P) W base t o.type e i0 (.int k 0) 1 bytes ht hi hz0 hz1 hz2 rfl (by omega) v xs.length (nums k xs) HO ad m c (nums k ys) (by simp [nums, hm]) hcells
    (by intro u hu; simp only [nums, List.mem_map] at hu; obtain ⟨q, _, rfl⟩ := hu; rfl) (by simp only [maxLen]; omega) hl hbase
   exact ⟨v1, w1, hr, by simpa [nums, hm] using h2, h3, h5⟩
 obtain ⟨v1, w1, hr, hown, hg, hat⟩ := hrun
 refine wpList_plain hgd fun K hK => ?_
 unfold Oper.wp execOp
 simp only [ho, resolve, invoke, builtin, Sem.run_bind, Sem.run_pure, Result.andThen_ok, List.map_toArray, List.map_cons, List.map_nil, hs, hx, hr]
 refine hK _ _ (h v1 w1 hown (HB.grown hg hbase (own_base HO)) hg ?_)
 rcases hat with hat | hat
 ·exact .inl hat
 ·exact .inr ⟨_, hat, Nat.le_refl _⟩
end
theorem own_R {w : World} {base : Nat} {v : Value} {l : List Int} (h : w.ownsRow base 3 1 v l.length (nums .i64 l)) : (Kd.int .i64).R 3 w base (fun _ => True) v l :=
 ⟨fun _ _ => trivial, nums .i64 l, h, by simp [nums, Kd.int, Kd.scalar], fun j p hj => by
  show ((nums .i64 l).drop (j * 1)).take 1 = [Value.int .i64 p]
  obtain ⟨h1, h2⟩ := List.getElem?_eq_some_iff.1 hj
  rw [Nat.mul_one, List.drop_eq_getElem_cons (by simpa [nums] using h1), List.take_succ_cons, List.take_zero]
  simp [nums, h2]⟩
theorem C_reads {w : World} {A : Option Addr} {l : List Int} (h : Kd.C (Kd.int .i64) w A l.length l) : ReadsInt w .i64 A l.length l := by
 refine ⟨rfl, h.2.1, fun h0 => ?_⟩
 obtain ⟨ad, e, _⟩ := Kd.at_int h (0 : Int) (by omega) (by omega)
 refine ⟨ad, e, fun j hj => ?_⟩
 obtain ⟨ad2, e2, q⟩ := Kd.at_int h (j : Int) (by omega) (by omega)
 rw [e] at e2
 cases e2
 rw [Int.toNat_natCast] at q
 exact q
theorem empty_own (w : World) : (w.alloc (.cells #[] 3)).ownsRow w.heap.size 3 1 (.slice (some ⟨w.heap.size, 0, none⟩) 0 0) ([] : List Int).length (nums .i64 []) :=
 ⟨rfl, .inr ⟨w.heap.size, 0, #[], rfl, Nat.le_refl _, blk_new w _, Nat.le_refl _, Nat.zero_le _, rfl, rfl⟩⟩
set_option maxHeartbeats 1000000 in
set_option maxRecDepth 100000 in
theorem cloneI (A : Option Addr) (c : Nat) (l : List Int) (w : World) (hr : Kd.C (Kd.int .i64) w A l.length l) (hc : l.length ≤ c) (hlen : l.length ≤ 1000000) :
  Calls Try.prog 70 #[.slice A l.length c] w fun e w' => ∃ v, e = .returned v ∧ Kd.R (Kd.int .i64) 3 w' w.heap.size (fun _ => True) v l ∧ Below w.heap.size w w' := by
 cases A with
 | none =>
  have hl : l = [] := by
   cases l with
   | nil => rfl
   | cons x l => obtain ⟨ad, e, _⟩ := hr.2.2 (Nat.succ_pos _); cases e
  subst hl
  have hn := fun w : World => Lib.run_eql_slice_nil (P := Try.prog) w 25 3 none 0 c 0 0 Try.underlying25
  clear hr hc hlen
  go_enter Try.func70, Try.ntmps70
  go_wp2
  go_ret
  exact ⟨_, rfl, Kd.R_nil _ _ _ _ _, Below.refl _ _⟩
 | some ad =>
  have HR := Aside0.mk (C_reads hr)
  have hn := fun w : World => Lib.run_eql_slice_nil (P := Try.prog) w 25 3 (some ad) l.length c 0 0 Try.underlying25
  clear hr
  go_enter Try.func70, Try.ntmps70
  go_wp2_with (at_builtin; refine print_append_row (w0 := w) w.heap.size rfl (.tmp 5) (.tmp 6) 25 3 .i64 8 rfl Try.underlying25 info3 (by decide) (.slice (some ⟨w.heap.size, 0, none⟩) 0 0) [] l (some ad) l.length c rfl rfl (empty_own w) (HR.out.below ((Below.refl _ _).alloc (Nat.le_refl _) _)) ((Below.refl _ _).alloc (Nat.le_refl _) _) (by simp) (by simp; omega) ?_; intro v1 w1 ho hb hg hat; rw [List.nil_append] at ho; have HO := Aside0.mk ho; have HB := Aside0.mk hb; clear ho hb hg hat)
  go_ret
  exact ⟨_, rfl, own_R HO.out, HB.out⟩
end
section
structure RowsI (w : World) (base o : Nat) (vs : List Value) (rows : List (List Int)) : Prop where
 blk : w.heap[o]? = some (.cells vs.toArray 25 (0, 0))
 len : vs.length = rows.length
 row : ∀ (i : Nat) (v : Value) (r : List Int), vs[i]? = some v → rows[i]? = some r → (Kd.int .i64).R 3 w base (fun _ => True) v r
 apart : ∀ (i j : Nat) (v u : Value), i ≠ j → vs[i]? = some v → vs[j]? = some u → v.ownBlock = none ∨ v.ownBlock ≠ u.ownBlock
theorem RowsI.below {w w1 : World} {base o : Nat} {vs : List Value} {rows : List (List Int)} (h : RowsI w base o vs rows) (hb : Below w.heap.size w w1) : RowsI w1 base o vs rows :=
 ⟨blk_below h.blk hb, h.len, fun i v r hv hr => Kd.R_below (h.row i v r hv hr) hb, h.apart⟩
theorem RowsI.get {w : World} {base o : Nat} {vs : List Value} {rows : List (List Int)} (h : RowsI w base o vs rows) (i : Nat) (hi : i < rows.length) :
  ∃ v, vs[i]? = some v ∧ (Kd.int .i64).R 3 w base (fun _ => True) v (rows.getD i []) ∧ w.cell? ⟨o, i, none⟩ = some v := by
 have hv : i < vs.length := by have := h.len; omega
 refine ⟨vs[i], List.getElem?_eq_getElem hv, ?_, ?_⟩
 ·rw [List.getD_eq_getElem?_getD, List.getElem?_eq_getElem hi]
  exact h.row i _ _ (List.getElem?_eq_getElem hv) (List.getElem?_eq_getElem hi)
 ·rw [blk_cell h.blk i]
  simp [hv]
theorem RowsI.lt {w : World} {base o : Nat} {vs : List Value} {rows : List (List Int)} (h : RowsI w base o vs rows) {i : Nat} {v : Value} (hv : vs[i]? = some v) {k : Nat} (hk : v.ownBlock = some k) : k < w.heap.size := by
 have hm : i < rows.length := by have := (List.getElem?_eq_some_iff.1 hv).1; have := h.len; omega
 exact Kd.R_lt (h.row i v _ hv (List.getElem?_eq_getElem hm)) k hk
theorem RowsI.set {W w1 : World} {base o : Nat} {vs : List Value} {rows : List (List Int)} (h : RowsI W base o vs rows) {i : Nat} {v v1 : Value} {r r1 : List Int} (hv : vs[i]? = some v) (hr : rows[i]? = some r)
  (h1 : (Kd.int .i64).R 3 w1 base (fun _ => True) v1 r1) (hg : W.grownBy w1 v.ownBlock) (hat : v1.ownBlock = v.ownBlock ∨ ∃ b, v1.ownBlock = some b ∧ W.heap.size ≤ b) :
  RowsI (w1.setCell ⟨o, i, none⟩ v1) base o (vs.set i v1) (rows.set i r1) := by
 have hvr := h.row i v r hv hr
 have hty : ∀ (w : World) (u : Value) (s : List Int) (ok : Nat → Prop) (cs : Array Value), (Kd.int .i64).R 3 w base ok u s → w.heap[o]? = some (.cells cs 25 (0, 0)) → ∀ k, u.ownBlock = some k → k ≠ o := by
  intro w u s ok cs hu ho k hk e
  subst e
  obtain ⟨cells, hc⟩ := Kd.R_typed hu k hk
  rw [ho] at hc
  injection hc with hc
  injection hc with _ hc
  exact absurd hc (by decide)
 have ho1 : w1.heap[o]? = some (.cells vs.toArray 25 (0, 0)) := blk_grown h.blk hg (fun e => hty W v r _ _ hvr h.blk o e.symm rfl)
 refine ⟨by rw [blk_put ho1 i v1 rfl]; simp, by simp [h.len], ?_, ?_⟩
 ·intro j u s hu hs
  by_cases e : i = j
  ·subst e
   rw [List.getElem?_set_self (List.getElem?_eq_some_iff.1 hv).1] at hu
   rw [List.getElem?_set_self (List.getElem?_eq_some_iff.1 hr).1] at hs
   obtain rfl := Option.some.inj hu
   obtain rfl := Option.some.inj hs
   refine Kd.R_mono (Kd.R_far (Kd.R_tight rfl h1) (fun k hk => ?_) v1) (fun _ _ => trivial)
   exact hty w1 v1 r1 _ _ h1 ho1 k hk.symm
  ·rw [List.getElem?_set_ne e] at hu hs
   have hus := h.row j u s hu hs
   have hus1 : (Kd.int .i64).R 3 w1 base (fun _ => True) u s := by
    refine Kd.R_mono (Kd.R_step (Kd.R_tight rfl hus) (fun k hk hlt => hg.block k hlt (fun e2 => ?_))) (fun _ _ => trivial)
    rcases h.apart j i u v (Ne.symm e) hu hv with h2 | h2
    ·rw [h2] at hk; cases hk
    ·exact h2 (hk.symm.trans e2)
   refine Kd.R_mono (Kd.R_far (Kd.R_tight rfl hus1) (fun k hk => ?_) v1) (fun _ _ => trivial)
   exact hty w1 u s _ _ hus1 ho1 k hk.symm
 ·intro j k u x hjk hu hx
  have new : ∀ (m : Nat) (y : Value), i ≠ m → vs[m]? = some y → (y.ownBlock = none ∨ y.ownBlock ≠ v1.ownBlock) := by
   intro m y him hy
   rcases hat with hat | ⟨b, hb, hle⟩
   ·rw [hat]; exact h.apart m i y v (Ne.symm him) hy hv
   ·rw [hb]
    right
    intro e
    have hm : m < rows.length := by have := (List.getElem?_eq_some_iff.1 hy).1; have := h.len; omega
    have := Kd.R_lt (h.row m y _ hy (List.getElem?_eq_getElem hm)) b e
    omega
  by_cases e : i = j
  ·subst e
   rw [List.getElem?_set_self (List.getElem?_eq_some_iff.1 hv).1] at hu
   obtain rfl := Option.some.inj hu
   rw [List.getElem?_set_ne hjk] at hx
   rcases new k x hjk hx with h2 | h2
   ·cases hq : v1.ownBlock with
    | none => exact .inl rfl
    | some b => right; rw [h2]; simp
   ·exact .inr (Ne.symm h2)
  ·rw [List.getElem?_set_ne e] at hu
   by_cases e2 : i = k
   ·subst e2
    rw [List.getElem?_set_self (List.getElem?_eq_some_iff.1 hv).1] at hx
    obtain rfl := Option.some.inj hx
    exact new j u e hu
   ·rw [List.getElem?_set_ne e2] at hx
    exact h.apart j k u x hjk hu hx
structure Two (w0 w : World) (tb bb : Nat) (vsT vsB : List Value) (T B : List (List Int)) : Prop where
 t : RowsI w w0.heap.size tb vsT T
 b : RowsI w w0.heap.size bb vsB B
 ne : tb ≠ bb
 tl : tb < w0.heap.size
 bl : bb < w0.heap.size
 cross : ∀ (i j : Nat) (v u : Value), vsT[i]? = some v → vsB[j]? = some u → v.ownBlock = none ∨ v.ownBlock ≠ u.ownBlock
 fr : ∀ k, k < w0.heap.size → k ≠ tb → k ≠ bb → w.heap[k]? = w0.heap[k]?
 size : w0.heap.size ≤ w.heap.size
variable {w0 w : World} {tb bb : Nat} {vsT vsB : List Value} {T B : List (List Int)}
theorem Two.flip (h : Two w0 w tb bb vsT vsB T B) : Two w0 w bb tb vsB vsT B T :=
 ⟨h.b, h.t, h.ne.symm, h.bl, h.tl, fun i j v u hv hu => by
  rcases h.cross j i u v hu hv with h1 | h1
  ·cases hq : v.ownBlock with
   | none => exact .inl rfl
   | some x => right; rw [h1]; simp
  ·exact .inr (Ne.symm h1), fun k h1 h2 h3 => h.fr k h1 h3 h2, h.size⟩
theorem Two.below {w1 : World} (h : Two w0 w tb bb vsT vsB T B) (hb : Below w.heap.size w w1) : Two w0 w1 tb bb vsT vsB T B :=
 ⟨h.t.below hb, h.b.below hb, h.ne, h.tl, h.bl, h.cross, fun k h1 h2 h3 => (hb.block k (Nat.lt_of_lt_of_le h1 h.size)).trans (h.fr k h1 h2 h3), Nat.le_trans h.size hb.size⟩
theorem Two.cell (h : Two w0 w tb bb vsT vsB T B) {p : Addr} {v : Value} (hc : w0.cell? p = some v) (h1 : p.block ≠ tb) (h2 : p.block ≠ bb) : w.cell? p = some v := by
 have hl := World.block_lt_of_cell? _ _ hc
 rw [← hc]
 unfold World.cell?
 rw [h.fr _ hl h1 h2]
theorem Two.set {w1 : World} (h : Two w0 w tb bb vsT vsB T B) {i : Nat} {v v1 : Value} {r r1 : List Int} (hv : vsT[i]? = some v) (hr : T[i]? = some r)
  (h1 : (Kd.int .i64).R 3 w1 w0.heap.size (fun _ => True) v1 r1) (hg : w.grownBy w1 v.ownBlock) (hat : v1.ownBlock = v.ownBlock ∨ ∃ b, v1.ownBlock = some b ∧ w.heap.size ≤ b) :
  Two w0 (w1.setCell ⟨tb, i, none⟩ v1) tb bb (vsT.set i v1) vsB (T.set i r1) B := by
 have hvl : ∀ k, v.ownBlock = some k → w0.heap.size ≤ k := fun k hk => Kd.R_base (h.t.row i v r hv hr) k hk
 have hold : ∀ k, k < w0.heap.size → w1.heap[k]? = w.heap[k]? := fun k hk => hg.block k (Nat.lt_of_lt_of_le hk h.size) (fun e => by have := hvl k e.symm; omega)
 have hbb : w.heap[bb]? = some (.cells vsB.toArray 25 (0, 0)) := h.b.blk
 refine ⟨h.t.set hv hr h1 hg hat, ?_, h.ne, h.tl, h.bl, ?_, fun k k1 k2 k3 => ?_, ?_⟩
 ·refine ⟨?_, h.b.len, fun j u s hu hs => ?_, h.b.apart⟩
  ·exact blk_far ((hold bb h.bl).trans hbb) (p := ⟨tb, i, none⟩) (Ne.symm h.ne) v1
  ·have hus := h.b.row j u s hu hs
   have hus1 : (Kd.int .i64).R 3 w1 w0.heap.size (fun _ => True) u s := by
    refine Kd.R_mono (Kd.R_step (Kd.R_tight rfl hus) (fun k hk hlt => hg.block k hlt (fun e2 => ?_))) (fun _ _ => trivial)
    rcases h.cross i j v u hv hu with h2 | h2
    ·rw [h2] at e2; cases e2
    ·exact h2 (e2.symm.trans hk)
   refine Kd.R_mono (Kd.R_far (Kd.R_tight rfl hus1) (fun k hk => ?_) v1) (fun _ _ => trivial)
   have := Kd.R_base hus1 k hk.symm
   have := h.tl
   show k ≠ tb
   omega
 ·intro a j x u hx hu
  by_cases e : i = a
  ·subst e
   rw [List.getElem?_set_self (List.getElem?_eq_some_iff.1 hv).1] at hx
   obtain rfl := Option.some.inj hx
   rcases hat with hat | ⟨b, hb, hle⟩
   ·rw [hat]; exact h.cross i j v u hv hu
   ·right
    rw [hb]
    intro e2
    have := h.b.lt hu e2.symm
    omega
  ·rw [List.getElem?_set_ne e] at hx
   exact h.cross a j x u hx hu
 ·exact (Below.heap_setCell w1 ⟨tb, i, none⟩ v1 k k2).trans ((hold k k1).trans (h.fr k k1 k2 k3))
 ·have := hg.size
  have := h.size
  simp only [World.setCell, Array.size_modify]
  omega
theorem RowsI.reads {base o : Nat} {vs : List Value} {rows : List (List Int)} (h : RowsI w base o vs rows) (hl : rows.length ≤ 9223372036854775807) : Kd.C (Kd.slice 3 (Kd.int .i64)) w (some ⟨o, 0, none⟩) rows.length rows :=
 ⟨rfl, hl, fun _ => ⟨⟨o, 0, none⟩, rfl, fun j p hj => by
  have hjl := (List.getElem?_eq_some_iff.1 hj).1
  obtain ⟨v, hv, hr, hc⟩ := h.get j hjl
  rw [List.getD_eq_getElem?_getD, hj] at hr
  obtain ⟨A, c, he, hlc, hC⟩ := Kd.R_reads hr
  refine ⟨[v], rfl, ⟨A, c, by rw [he]; rfl, hlc, hC⟩, fun i u hu => ?_⟩
  have hi : i = 0 := by have := (List.getElem?_eq_some_iff.1 hu).1; simp at this; exact this
  subst hi
  rw [add_plain]
  simp only [List.getElem?_cons_zero, Option.some.injEq] at hu
  rw [← hu]
  refine Eq.trans ?_ hc
  congr 2
  show j * 1 + 0 = j
  omega⟩⟩
theorem two_made (W : World) (n base : Nat) : RowsI (W.alloc (.cells (Array.replicate n (Value.slice none 0 0)) 25)) base W.heap.size (List.replicate n (Value.slice none 0 0)) (List.replicate n []) := by
 refine ⟨?_, by simp, ?_, ?_⟩
 ·rw [blk_new]; simp
 ·intro i v r hv hr
  obtain ⟨_, e⟩ := List.getElem?_eq_some_iff.1 hv
  rw [List.getElem_replicate] at e
  subst e
  obtain ⟨_, e⟩ := List.getElem?_eq_some_iff.1 hr
  rw [List.getElem_replicate] at e
  subst e
  exact Kd.R_nil _ _ _ _ _
 ·intro i j v u _ hv _
  obtain ⟨_, e⟩ := List.getElem?_eq_some_iff.1 hv
  rw [List.getElem_replicate] at e
  subst e
  exact .inl rfl
theorem two_none {W w1 : World} {n base o : Nat} {row : Option Nat} (h : RowsI W base o (List.replicate n (Value.slice none 0 0)) (List.replicate n [])) (hg : W.grownBy w1 row) (hne : some o ≠ row) : RowsI w1 base o (List.replicate n (Value.slice none 0 0)) (List.replicate n []) := by
 refine ⟨blk_grown h.blk hg hne, h.len, ?_, h.apart⟩
 intro i v r hv hr
 obtain ⟨_, e⟩ := List.getElem?_eq_some_iff.1 hv
 rw [List.getElem_replicate] at e
 subst e
 obtain ⟨_, e⟩ := List.getElem?_eq_some_iff.1 hr
 rw [List.getElem_replicate] at e
 subst e
 exact Kd.R_nil _ _ _ _ _
end
def tightStep (value : List Int) (x : Nat) (p : List (List Int) × List (List Int)) (a : S105) : List (List Int) × List (List Int) :=
 if rd value a.f1 = wrap64 (rd value (x : Int) + a.f2) then (p.1.set x (p.1.getD x [] ++ [a.f1]), p.2.set a.f1.toNat (p.2.getD a.f1.toNat [] ++ [(x : Int)])) else p
def tightRow (value : List Int) (x : Nat) (row : List S105) (p : List (List Int) × List (List Int)) : List (List Int) × List (List Int) := row.foldl (tightStep value x) p
def tightUp (value : List Int) (rows : List (List S105)) : Nat → List (List Int) × List (List Int)
 | 0 => (List.replicate rows.length [], List.replicate rows.length [])
 | x + 1 => tightRow value x (rows.getD x []) (tightUp value rows x)
def setR (R : Nat → Nat → Bool) (v : Nat) : Nat → Nat → List Int → List Bool → List Int × List Bool
 | 0, _, set, seen => (set, seen)
 | d + 1, w, set, seen => if R v w = true then setR R v d (w + 1) (set ++ [(w : Int)]) (seen.set w true) else setR R v d (w + 1) set seen
def moreSets (sets : List (List Int)) (set : List Int) : List (List Int) := if 1 < set.length then sets ++ [set] else sets
def memB (tw fr : List Bool) (value : List Int) (v w : Nat) : Bool := tw.getD w false && (fr.getD w false && (value.getD w 0 == value.getD v 0))
def clsV (k n : Nat) (value : List Int) (T B : List (List Int)) : Nat → Nat → List Bool → List (List Int) → Option (List (List Int))
 | 0, _, _, sets => some sets
 | d + 1, v, seen, sets => if seen.getD v false = true then clsV k n value T B d (v + 1) seen sets else
   (graph_reached.f k T (v : Int)).bind fun tw => (graph_reached.f k B (v : Int)).bind fun fr =>
    if tw.length = n + 1 then if fr.length = n + 1 then clsV k n value T B d (v + 1) (setR (memB tw fr value) v (n - v) v [] seen).2 (moreSets sets (setR (memB tw fr value) v (n - v) v [] seen).1) else none else none
def classesN (k n : Nat) (l : List S44) : Option (List (List Int) × Int) :=
 (solvedN k n l).bind fun s => if s.2 = 0 then if s.1.length = n then (clsV k n (s.1 ++ [0]) (tightUp (s.1 ++ [0]) (rowsOf (n + 1) (allArcs n l (upTo l.length))) (n + 1)).1 (tightUp (s.1 ++ [0]) (rowsOf (n + 1) (allArcs n l (upTo l.length))) (n + 1)).2 n 0 (List.replicate n false) []).map fun r => (r, 0) else none else some ([], s.2)
def graph_Classes.f (k : Nat) (a0 : Int) (l1 : List S44) : Option (List (List Int) × Int) := if validB a0 l1 = true then classesN k a0.toNat l1 else some ([], 4)
theorem clsV.mono (n : Nat) (value : List Int) (T B : List (List Int)) (k : Nat) : ∀ d v seen sets, LeO (clsV k n value T B d v seen sets) (clsV (k + 1) n value T B d v seen sets)
 | 0, _, _, _ => LeO.refl _
 | d + 1, v, seen, sets => LeO.ite (clsV.mono n value T B k d _ _ _) (LeO.bind (graph_reached.mono _ _ _) fun _ => LeO.bind (graph_reached.mono _ _ _) fun _ => LeO.ite (LeO.ite (clsV.mono n value T B k d _ _ _) (LeO.refl _)) (LeO.refl _))
theorem graph_Classes.mono : ∀ a0 l1 k, LeO (graph_Classes.f k a0 l1) (graph_Classes.f (k + 1) a0 l1) := fun _ _ _ =>
 LeO.ite (LeO.bind (solvedN.mono _ _ _) fun _ => LeO.ite (LeO.ite (LeO.map _ (clsV.mono _ _ _ _ _ _ _ _ _)) (LeO.refl _)) (LeO.refl _)) (LeO.refl _)
def RowLen (m : Nat) (T : List (List Int)) : Prop := ∀ (i : Nat) (r : List Int), T[i]? = some r → r.length ≤ m
theorem RowLen.grow {m i : Nat} {T : List (List Int)} {x : Int} (h : RowLen m T) : RowLen (m + 1) (T.set i (T.getD i [] ++ [x])) := by
 intro j r hj
 by_cases e : i = j
 ·subst e
  by_cases hl : i < T.length
  ·rw [List.getElem?_set_self hl] at hj
   obtain rfl := Option.some.inj hj
   have := h i _ (List.getElem?_eq_getElem hl)
   rw [List.length_append, List.getD_eq_getElem?_getD, List.getElem?_eq_getElem hl]
   simp
   omega
  ·rw [List.getElem?_eq_none (by simp; omega)] at hj
   cases hj
 ·rw [List.getElem?_set_ne e] at hj
  have := h j r hj
  omega
theorem RowLen.more {m m2 : Nat} {T : List (List Int)} (h : RowLen m T) (hm : m ≤ m2) : RowLen m2 T := fun i r hi => Nat.le_trans (h i r hi) hm
theorem RowLen.none (m n : Nat) : RowLen m (List.replicate n []) := fun i r hi => by
 obtain ⟨_, e⟩ := List.getElem?_eq_some_iff.1 hi
 rw [List.getElem_replicate] at e
 subst e
 simp
theorem setR_length (R : Nat → Nat → Bool) (v : Nat) : ∀ (d w : Nat) (set : List Int) (seen : List Bool), (setR R v d w set seen).1.length ≤ set.length + d ∧ (setR R v d w set seen).2.length = seen.length
 | 0, _, set, seen => ⟨Nat.le_refl _, rfl⟩
 | d + 1, w, set, seen => by
  simp only [setR]
  split
  ·have := setR_length R v d (w + 1) (set ++ [(w : Int)]) (seen.set w true)
   simp only [List.length_append, List.length_singleton, List.length_set] at this
   omega
  ·have := setR_length R v d (w + 1) set seen
   omega
theorem tightStep_length (value : List Int) (x : Nat) (p : List (List Int) × List (List Int)) (a : S105) : (tightStep value x p a).1.length = p.1.length ∧ (tightStep value x p a).2.length = p.2.length := by
 unfold tightStep
 split <;> simp
theorem tightRow_length (value : List Int) (x : Nat) : ∀ (row : List S105) (p : List (List Int) × List (List Int)), (tightRow value x row p).1.length = p.1.length ∧ (tightRow value x row p).2.length = p.2.length
 | [], _ => ⟨rfl, rfl⟩
 | a :: row, p => by
  have h1 := tightRow_length value x row (tightStep value x p a)
  have h2 := tightStep_length value x p a
  exact ⟨h1.1.trans h2.1, h1.2.trans h2.2⟩
theorem tightUp_length (value : List Int) (rows : List (List S105)) : ∀ x, (tightUp value rows x).1.length = rows.length ∧ (tightUp value rows x).2.length = rows.length
 | 0 => by simp [tightUp]
 | x + 1 => by
  have h1 := tightRow_length value x (rows.getD x []) (tightUp value rows x)
  have h2 := tightUp_length value rows x
  exact ⟨h1.1.trans h2.1, h1.2.trans h2.2⟩
theorem tightRow_snoc (value : List Int) (x : Nat) (l : List S105) (a : S105) (p : List (List Int) × List (List Int)) : tightRow value x (l ++ [a]) p = tightStep value x (tightRow value x l p) a := by simp [tightRow, List.foldl_append]
theorem below_via {B B2 : Nat} {w W w1 : World} (h : Below B w W) (k : Below B2 W w1) (hB : B ≤ B2) : Below B w w1 :=
 ⟨k.os.trans h.os, k.tape.trans h.tape, k.output.trans h.output, Nat.le_trans h.size k.size, fun i hi => (k.block i (by omega)).trans (h.block i hi)⟩
theorem add_block (a : Addr) (n : Nat) : (a.add n).block = a.block := by unfold Addr.add; split <;> rfl
theorem add_ne {a : Addr} {n t : Nat} (h : a.block ≠ t) : (a.add n).block ≠ t := by rw [add_block]; exact h
theorem make_bools {ops : Array Oper} {rest : List Oper} {o : Oper} {a : Act} {Q : Exit → Act → World → Prop} {W : World} {n : Nat} {x y : Operand} (hgd : o.guard = none) (ho : o.op = .makeSlice 81 x y) (hn : n ≤ 1200) (hx : a.eval x = .int .i64 (n : Int)) (hy : a.eval y = .int .i64 (n : Int))
  (h : wpList Try.prog ops Q rest (a.put o.dst (.slice (some ⟨W.heap.size, 0, none⟩) n n)) (W.alloc (.cells (encB (List.replicate n false)) 4))) : wpList Try.prog ops Q (o :: rest) a W := by
 refine Kd.event_run hgd ?_ h
 have h := make_cells Try.prog 81 4 (.bool false) 1 1 Try.underlying81 info4 n (by omega) (by omega) W
 rw [madeB] at h
 simp only [execOp, ho, hx, hy]
 simp [h]
theorem fr_cell {w10 w : World} {sb : Nat} (h : ∀ k, k < w10.heap.size → k ≠ sb → w.heap[k]? = w10.heap[k]?) {p : Addr} {v : Value} (hc : w10.cell? p = some v) (hne : p.block ≠ sb) : w.cell? p = some v := by
 have hl := World.block_lt_of_cell? _ _ hc
 rw [← hc]
 unfold World.cell?
 rw [h _ hl hne]
theorem rdOf_nat (l : List Bool) (u : Nat) : rdOf false l (u : Int) = l.getD u false := by unfold rdOf; rw [Int.toNat_natCast]
theorem rd_nat (l : List Int) (u : Nat) : rd l (u : Int) = l.getD u 0 := by simp [rd]
theorem fr_drew {w10 w : World} {sb : Nat} (h : ∀ k, k < w10.heap.size → k ≠ sb → w.heap[k]? = w10.heap[k]?) (nq : Nat) : ∀ k, k < w10.heap.size → k ≠ sb → (w.drewN nq).heap[k]? = w10.heap[k]? := h
def clsR (R : Nat → Nat → Bool) (n : Nat) : Nat → Nat → List Bool → List (List Int) → List (List Int)
 | 0, _, _, sets => sets
 | d + 1, v, seen, sets => if seen.getD v false = true then clsR R n d (v + 1) seen sets else clsR R n d (v + 1) (setR R v (n - v) v [] seen).2 (moreSets sets (setR R v (n - v) v [] seen).1)
structure Equiv (R : Nat → Nat → Bool) : Prop where
 refl : ∀ x, R x x = true
 symm : ∀ x y, R x y = true → R y x = true
 trans : ∀ x y z, R x y = true → R y z = true → R x z = true
structure SeenOk (R : Nat → Nat → Bool) (n v : Nat) (seen : List Bool) : Prop where
 len : seen.length = n
 iff : ∀ w, w < n → (seenAt seen w ↔ ∃ j, j < v ∧ R j w = true)
theorem setR_seen (R : Nat → Nat → Bool) (v : Nat) : ∀ (d w : Nat) (set : List Int) (seen : List Bool), w + d ≤ seen.length → (setR R v d w set seen).2.length = seen.length ∧ ∀ x, seenAt (setR R v d w set seen).2 x ↔ (seenAt seen x ∨ (w ≤ x ∧ x < w + d ∧ R v x = true)) := by
 intro d
 induction d with
 | zero => intro w set seen _; exact ⟨rfl, fun x => ⟨.inl, fun h => h.elim id fun h => by omega⟩⟩
 | succ d ih =>
  intro w set seen hl
  simp only [setR]
  split
  ·rename_i hr
   obtain ⟨h1, h2⟩ := ih (w + 1) (set ++ [(w : Int)]) (seen.set w true) (by rw [List.length_set]; omega)
   refine ⟨by rw [h1, List.length_set], fun x => ?_⟩
   rw [h2, seenAt_set (by omega)]
   constructor
   ·rintro ((h | h) | h)
    ·exact .inr ⟨by omega, by omega, by rw [h]; exact hr⟩
    ·exact .inl h
    ·exact .inr ⟨by omega, by omega, h.2.2⟩
   ·rintro (h | h)
    ·exact .inl (.inr h)
    ·by_cases e : x = w
     ·exact .inl (.inl e)
     ·exact .inr ⟨by omega, by omega, h.2.2⟩
  ·rename_i hr
   obtain ⟨h1, h2⟩ := ih (w + 1) set seen (by omega)
   refine ⟨h1, fun x => ?_⟩
   rw [h2]
   constructor
   ·rintro (h | h)
    ·exact .inl h
    ·exact .inr ⟨by omega, by omega, h.2.2⟩
   ·rintro (h | h)
    ·exact .inl h
    ·by_cases e : x = w
     ·rw [e] at h; exact (hr h.2.2).elim
     ·exact .inr ⟨by omega, by omega, h.2.2⟩
theorem seen_old {R : Nat → Nat → Bool} (hR : Equiv R) {n v : Nat} {seen : List Bool} (h : SeenOk R n v seen) (hv : v < n) (hs : seenAt seen v) : SeenOk R n (v + 1) seen := by
 refine ⟨h.len, fun w hw => ?_⟩
 rw [h.iff w hw]
 constructor
 ·rintro ⟨j, h1, h2⟩; exact ⟨j, by omega, h2⟩
 ·rintro ⟨j, h1, h2⟩
  by_cases e : j = v
  ·obtain ⟨i, h3, h4⟩ := (h.iff v hv).1 hs
   exact ⟨i, h3, hR.trans _ _ _ h4 (by rw [← e]; exact h2)⟩
  ·exact ⟨j, by omega, h2⟩
theorem seen_new {R : Nat → Nat → Bool} (hR : Equiv R) {n v : Nat} {seen : List Bool} (h : SeenOk R n v seen) (hv : v < n) : SeenOk R n (v + 1) (setR R v (n - v) v [] seen).2 := by
 have hl := h.len
 obtain ⟨h1, h2⟩ := setR_seen R v (n - v) v [] seen (by omega)
 refine ⟨by rw [h1, hl], fun w hw => ?_⟩
 rw [h2, h.iff w hw]
 constructor
 ·rintro (⟨j, h3, h4⟩ | ⟨_, _, h4⟩)
  ·exact ⟨j, by omega, h4⟩
  ·exact ⟨v, by omega, h4⟩
 ·rintro ⟨j, h3, h4⟩
  by_cases e : j = v
  ·rw [e] at h4
   by_cases hvw : v ≤ w
   ·exact .inr ⟨hvw, by omega, h4⟩
   ·exact .inl ⟨w, by omega, hR.refl w⟩
  ·exact .inl ⟨j, by omega, h4⟩
theorem seen_free {R : Nat → Nat → Bool} (hR : Equiv R) {n v : Nat} {seen : List Bool} (h : SeenOk R n v seen) (hv : v < n) (hs : ¬ seenAt seen v) {w : Nat} (hw : w < n) (hr : R v w = true) : ¬ seenAt seen w := fun hq => by
 obtain ⟨j, h1, h2⟩ := (h.iff w hw).1 hq
 exact hs ((h.iff v hv).2 ⟨j, h1, hR.trans _ _ _ h2 (hR.symm _ _ hr)⟩)
theorem rcls_l2 {n : Nat} (hn : n ≤ 1200) {R : Nat → Nat → Bool} {vals : List Int} (hvl : vals.length = n) {v : Nat} (hv : v < n) {tw from_ : List Bool} (ht : tw.length = n + 1) (hf : from_.length = n + 1)
  (hR : ∀ w, w < n → (R v w = true ↔ (seenAt tw w ∧ seenAt from_ w ∧ vals.getD w 0 = vals.getD v 0))) (E B : List S108) (out : List (List Int)) (ho : out.length ≤ 2000) {r : List (List Int) × Int} :
  ∀ (d w : Nat) (set : List Int) (done : List Bool), d + w = n → set.length ≤ w → done.length = n → (∀ x, w ≤ x → x < n → R v x = true → ¬ seenAt done x) →
   Ev (fun k => tenetref02_Classes.l1 k (n : Int) vals E B (setR R v d w set done).2 (moreSets out (setR R v d w set done).1) ((v + 1 : Nat) : Int)) r →
   Ev (fun k => tenetref02_Classes.l2 k (n : Int) vals E B done out (v : Int) tw from_ set (w : Int)) r := by
 intro d
 induction d with
 | zero =>
  intro w set done hd hs hdl hfree h
  refine Ev.step (fun k => tenetref02_Classes.l2.eq_2 ..) (Ev.neg (by omega) ?_)
  have h' : Ev (fun k => tenetref02_Classes.l1 k (n : Int) vals E B done (moreSets out set) ((v + 1 : Nat) : Int)) r := h
  have hm1 : 1 < set.length → moreSets out set = out ++ [set] := fun q => if_pos q
  have hm2 : ¬ 1 < set.length → moreSets out set = out := fun q => if_neg q
  rw [w64n _ (by omega)]
  refine Ev.both (fun a => Ev.pos (by omega) ?_) (fun a => ?_)
  ·rw [hm1 (by omega)] at h'
   exact h'
  ·rw [hm2 (by omega)] at h'
   exact h'
 | succ d ih =>
  intro w set done hd hs hdl hfree h
  have hw : w < n := by omega
  have e1 : rdOf false tw (w : Int) = tw.getD w false := by unfold rdOf; rw [Int.toNat_natCast]
  have e2 : rdOf false from_ (w : Int) = from_.getD w false := by unfold rdOf; rw [Int.toNat_natCast]
  have e3 : rdOf false done (w : Int) = done.getD w false := by unfold rdOf; rw [Int.toNat_natCast]
  have e4 : rd vals (w : Int) = vals.getD w 0 := by simp [rd]
  have e5 : rd vals (v : Int) = vals.getD v 0 := by simp [rd]
  have skip : R v w ≠ true → Ev (fun k => tenetref02_Classes.l2 k (n : Int) vals E B done out (v : Int) tw from_ set ((w + 1 : Nat) : Int)) r := fun hq => by
   simp only [setR] at h
   rw [if_neg hq] at h
   exact ih (w + 1) set done (by omega) (by omega) hdl (fun x h1 h2 h3 => hfree x (by omega) h2 h3) h
  refine Ev.step (fun k => tenetref02_Classes.l2.eq_2 ..) (Ev.pos (by omega) (Ev.pos (by omega) (Ev.pos (by omega) ?_)))
  rw [e1, e2, e3, e4, e5, w64n _ (by omega), Int.toNat_natCast]
  refine Ev.both (fun a1 => Ev.pos (by omega) (Ev.both (fun a2 => Ev.pos (by omega) (Ev.pos (by omega) (Ev.pos (by omega) (Ev.both (fun a3 => Ev.pos (by omega) ?_) (fun a3 => skip fun hq => a3 ((hR w hw).1 hq).2.2))))) (fun a2 => skip fun hq => a2 ((hR w hw).1 hq).2.1))) (fun a1 => skip fun hq => a1 ((hR w hw).1 hq).1)
  have hq : R v w = true := (hR w hw).2 ⟨a1, a2, a3⟩
  refine Ev.neg (hfree w (Nat.le_refl _) hw hq) (Ev.pos (by omega) ?_)
  simp only [setR] at h
  rw [if_pos hq] at h
  exact ih (w + 1) (set ++ [(w : Int)]) (done.set w true) (by omega) (by rw [List.length_append, List.length_singleton]; omega) (by rw [List.length_set]; exact hdl) (fun x h1 h2 h3 hx => by
   rcases (seenAt_set (by omega) x).1 hx with h4 | h4
   ·omega
   ·exact hfree x (by omega) h2 h3 h4) h
section
def toE (a : S105) : S108 := ⟨a.f0, a.f1, a.f2⟩
def isR (out : List S94) (v : Nat) : Bool := (out.getD v z94).f0
def dR (out : List S94) (v : Nat) : Int := (out.getD v z94).f1
structure RI (n : Nat) (E : List S105) (s : Nat) (out : List S94) (B : Nat) : Prop where
 len : out.length = n + 1
 start : isR out s = true ∧ 0 ≤ dR out s
 walk : ∀ v, v ≤ n → isR out v = true → Walk E s v (dR out v)
 bnd : ∀ v, v ≤ n → isR out v = true → -(1000 * (B : Int)) ≤ dR out v ∧ dR out v ≤ 1000 * (B : Int)
 unk : ∀ v, isR out v = false → dR out v = 0
def Fits (out : List S94) (a : S105) : Prop := isR out a.f0.toNat = true → isR out a.f1.toNat = true ∧ dR out a.f0.toNat + a.f2 ≤ dR out a.f1.toNat
section
variable {n s : Nat} {E : List S105} {out : List S94} {B : Nat} {a : S105}
theorem RI.more (h : RI n E s out B) {B2 : Nat} (hB : B ≤ B2) : RI n E s out B2 := { h with bnd := fun v hv hk => by have := h.bnd v hv hk; omega }
theorem set_out (h : RI n E s out B) (t : Nat) (ht : t ≤ n) (z : Int) (v : Nat) : isR (out.set t ⟨true, z⟩) v = (if v = t then true else isR out v) ∧ dR (out.set t ⟨true, z⟩) v = (if v = t then z else dR out v) := by
 unfold isR dR
 rw [gset _ _ _ _ _ (by have := h.len; omega)]
 split <;> exact ⟨rfl, rfl⟩
theorem lgo_cons (L : List S105) (m : Bool) : lgo ((a :: L).map toE) out m = if isR out a.f0.toNat = true ∧ (isR out a.f1.toNat = false ∨ dR out a.f1.toNat < wrap64 (dR out a.f0.toNat + a.f2))
  then lgo (L.map toE) (out.set a.f1.toNat ⟨true, wrap64 (dR out a.f0.toNat + a.f2)⟩) true else lgo (L.map toE) out m := rfl
theorem RI.wrap (h : RI n E s out B) (hE : ArcsOk n E) (ha : a ∈ E) (hB : B ≤ 1000000000000) (hk : isR out a.f0.toNat = true) : wrap64 (dR out a.f0.toNat + a.f2) = dR out a.f0.toNat + a.f2 := by
 have h1 := hE a ha
 have h2 := h.bnd a.f0.toNat (by omega) hk
 unfold wrap64
 omega
theorem lgo_spec (hE : ArcsOk n E) : ∀ (L : List S105) (out : List S94) (m : Bool) (B : Nat), (∀ a ∈ L, a ∈ E) → RI n E s out B → B + L.length ≤ 1000000000000 →
  RI n E s (lgo (L.map toE) out m).1 (B + L.length) ∧ (∀ v, isR out v = true → isR (lgo (L.map toE) out m).1 v = true ∧ dR out v ≤ dR (lgo (L.map toE) out m).1 v) ∧
  ((lgo (L.map toE) out m).2 = false → m = false ∧ (lgo (L.map toE) out m).1 = out ∧ ∀ a ∈ L, Fits out a) ∧
  (∀ a ∈ L, isR out a.f0.toNat = true → isR (lgo (L.map toE) out m).1 a.f1.toNat = true ∧ dR out a.f0.toNat + a.f2 ≤ dR (lgo (L.map toE) out m).1 a.f1.toNat) := by
 intro L
 induction L with
 | nil =>
  intro out m B _ h hB
  exact ⟨h, fun v hv => ⟨hv, Int.le_refl _⟩, fun h => ⟨h, rfl, fun a ha => by cases ha⟩, fun a ha => by cases ha⟩
 | cons a L ih =>
  intro out m B hL h hB
  have ha := hL a List.mem_cons_self
  have hL2 := fun b hb => hL b (List.mem_cons_of_mem _ hb)
  have hb := hE a ha
  simp only [List.length_cons] at hB
  rw [lgo_cons, List.length_cons]
  by_cases hc : isR out a.f0.toNat = true ∧ (isR out a.f1.toNat = false ∨ dR out a.f1.toNat < wrap64 (dR out a.f0.toNat + a.f2))
  ·rw [if_pos hc]
   have hw := h.wrap hE ha (by omega) hc.1
   rw [hw]
   have hso := set_out h a.f1.toNat (by omega) (dR out a.f0.toNat + a.f2)
   have hstep : ∀ v, isR out v = true → isR (out.set a.f1.toNat ⟨true, dR out a.f0.toNat + a.f2⟩) v = true ∧ dR out v ≤ dR (out.set a.f1.toNat ⟨true, dR out a.f0.toNat + a.f2⟩) v := fun v hv => by
    rw [(hso v).1, (hso v).2]
    by_cases e : v = a.f1.toNat
    ·rw [if_pos e, if_pos e]
     refine ⟨rfl, ?_⟩
     rcases hc.2 with h2 | h2
     ·rw [← e, hv] at h2; cases h2
     ·rw [hw, ← e] at h2; omega
    ·rw [if_neg e, if_neg e]
     exact ⟨hv, Int.le_refl _⟩
   have h1 : RI n E s (out.set a.f1.toNat ⟨true, dR out a.f0.toNat + a.f2⟩) (B + 1) := by
    refine ⟨by rw [List.length_set]; exact h.len, ?_, ?_, ?_, ?_⟩
    ·have := hstep s h.start.1
     have := h.start.2
     exact ⟨(hstep s h.start.1).1, by omega⟩
    ·intro v hv hk
     rw [(hso v).1] at hk
     rw [(hso v).2]
     by_cases e : v = a.f1.toNat
     ·rw [if_pos e, e]
      exact .snoc (h.walk a.f0.toNat (by omega) hc.1) ha (by omega) (by omega)
     ·rw [if_neg e] at hk ⊢
      exact h.walk v hv hk
    ·intro v hv hk
     rw [(hso v).1] at hk
     rw [(hso v).2]
     by_cases e : v = a.f1.toNat
     ·rw [if_pos e]
      have := h.bnd a.f0.toNat (by omega) hc.1
      omega
     ·rw [if_neg e] at hk ⊢
      have := h.bnd v hv hk
      omega
    ·intro v hk
     rw [(hso v).1] at hk
     rw [(hso v).2]
     by_cases e : v = a.f1.toNat
     ·rw [if_pos e] at hk; cases hk
     ·rw [if_neg e] at hk ⊢
      exact h.unk v hk
   obtain ⟨i1, i2, i3, i4⟩ := ih _ true (B + 1) hL2 h1 (by omega)
   refine ⟨by rw [show B + (L.length + 1) = B + 1 + L.length by omega]; exact i1, ?_, fun hf => absurd (i3 hf).1 (by decide), ?_⟩
   ·intro v hv
    have q := hstep v hv
    have q2 := i2 v q.1
    exact ⟨q2.1, by have := q.2; have := q2.2; omega⟩
   ·intro b hb hk
    rcases List.mem_cons.1 hb with rfl | hb
    ·have q := hso b.f1.toNat
     rw [if_pos rfl, if_pos rfl] at q
     have q2 := i2 b.f1.toNat q.1
     rw [q.2] at q2
     exact q2
    ·have q := hstep b.f0.toNat hk
     have q2 := i4 b hb q.1
     exact ⟨q2.1, by have := q.2; have := q2.2; omega⟩
  ·rw [if_neg hc]
   obtain ⟨i1, i2, i3, i4⟩ := ih out m B hL2 h (by omega)
   have hf : Fits out a := fun hk => by
    have hw := h.wrap hE ha (by omega) hk
    rw [hw] at hc
    cases e : isR out a.f1.toNat with
    | false => exact absurd ⟨hk, .inl e⟩ hc
    | true =>
     refine ⟨rfl, ?_⟩
     have : ¬ dR out a.f1.toNat < dR out a.f0.toNat + a.f2 := fun h2 => hc ⟨hk, .inr h2⟩
     omega
   refine ⟨i1.more (by omega), i2, fun h2 => ⟨(i3 h2).1, (i3 h2).2.1, fun b hb => ?_⟩, ?_⟩
   ·rcases List.mem_cons.1 hb with rfl | hb
    ·exact hf
    ·exact (i3 h2).2.2 b hb
   ·intro b hb hk
    rcases List.mem_cons.1 hb with rfl | hb
    ·have q := hf hk
     have q2 := i2 _ q.1
     exact ⟨q2.1, by have := q.2; have := q2.2; omega⟩
    ·exact i4 b hb hk
theorem lgo_fix (hE : ArcsOk n E) (h : RI n E s out B) (hB : B ≤ 1000000000000) : ∀ (L : List S105) (m : Bool), (∀ a ∈ L, a ∈ E) → (∀ a ∈ L, Fits out a) → lgo (L.map toE) out m = (out, m) := by
 intro L
 induction L with
 | nil => intro m _ _; rfl
 | cons a L ih =>
  intro m hL hf
  rw [lgo_cons, if_neg]
  ·exact ih m (fun b hb => hL b (List.mem_cons_of_mem _ hb)) (fun b hb => hf b (List.mem_cons_of_mem _ hb))
  ·rintro ⟨h1, h2⟩
   have h3 := hf a List.mem_cons_self h1
   rw [h.wrap hE (hL a List.mem_cons_self) hB h1] at h2
   rcases h2 with h2 | h2
   ·rw [h3.1] at h2; cases h2
   ·have := h3.2; omega
theorem lrounds_false : ∀ (es : List S108) (K : Nat) (out r : List S94), lrounds es K out = (r, false) → r = [] := by
 intro es K
 induction K with
 | zero => intro out r h; exact (Prod.mk.inj h).1.symm
 | succ K ih =>
  intro out r h
  simp only [lrounds] at h
  split at h
  ·exact ih _ _ h
  ·have := (Prod.mk.inj h).2; cases this
theorem lrounds_true (hE : ArcsOk n E) : ∀ (K : Nat) (out r : List S94) (B : Nat), RI n E s out B → B + K * E.length ≤ 1000000000000 → lrounds (E.map toE) K out = (r, true) → (∃ B2, RI n E s r B2) ∧ ∀ a ∈ E, Fits r a := by
 intro K
 induction K with
 | zero => intro out r B _ _ h; have := (Prod.mk.inj h).2; cases this
 | succ K ih =>
  intro out r B h hB hr
  rw [Nat.succ_mul] at hB
  obtain ⟨i1, i2, i3, i4⟩ := lgo_spec hE E out false B (fun a ha => ha) h (by omega)
  simp only [lrounds] at hr
  split at hr
  ·exact ih _ r _ i1 (by omega) hr
  ·rename_i hm
   obtain ⟨e, _⟩ := Prod.mk.inj hr
   obtain ⟨_, q2, q3⟩ := i3 (by simpa using hm)
   rw [← e, q2]
   exact ⟨⟨B, h⟩, q3⟩
theorem lrounds_ends (hE : ArcsOk n E) {is : Nat → Bool} {d : Nat → Int} (hd : Longest n E s is d) : ∀ (K j : Nat) (out : List S94) (B : Nat), RI n E s out B → B + K * E.length ≤ 1000000000000 → j ≤ n → n + 2 ≤ j + K →
  (∀ m, m ≤ j → ∀ v, Tight E d s m v → isR out v = true ∧ d v ≤ dR out v) → ∃ r, lrounds (E.map toE) K out = (r, true) := by
 intro K
 induction K with
 | zero => intro j out B _ _ h1 h2; omega
 | succ K ih =>
  intro j out B h hB hj hK ht
  rw [Nat.succ_mul] at hB
  obtain ⟨i1, i2, i3, i4⟩ := lgo_spec hE E out false B (fun a ha => ha) h (by omega)
  by_cases hm : (lgo (E.map toE) out false).2 = true
  ·by_cases hjn : j = n
   ·
    exfalso
    have hex : ∀ v, v ≤ n → isR out v = true → is v = true ∧ dR out v = d v := fun v hv hk => by
     have h1 := hd.closed.walk (h.walk v hv hk)
     obtain ⟨m, hmn, htm⟩ := hd.tight v hv h1.1
     have h2 := ht m (by omega) v htm
     exact ⟨h1.1, by have := h1.2; have := h2.2; omega⟩
    have hin : ∀ v, v ≤ n → is v = true → isR out v = true := fun v hv hk => by
     obtain ⟨m, hmn, htm⟩ := hd.tight v hv hk
     exact (ht m (by omega) v htm).1
    have hfit : ∀ a ∈ E, Fits out a := fun a ha hk => by
     have hb := hE a ha
     have h1 := hex a.f0.toNat (by omega) hk
     have h2 := hd.closed.arc a ha h1.1
     have h3 := hin a.f1.toNat (by omega) h2.1
     have h4 := hex a.f1.toNat (by omega) h3
     exact ⟨h3, by rw [h1.2, h4.2]; exact h2.2⟩
    rw [lgo_fix hE h (by omega) E false (fun a ha => ha) hfit] at hm
    cases hm
   ·simp only [lrounds]
    rw [if_pos hm]
    refine ih (j + 1) _ _ i1 (by omega) (by omega) (by omega) ?_
    intro m hm2 v htm
    cases htm with
    | nil =>
     have h1 := ht 0 (by omega) s .nil
     have h2 := i2 s h1.1
     exact ⟨h2.1, by have := h1.2; have := h2.2; omega⟩
    | @snoc m x t a hx ha h0 h1 he =>
     have h2 := ht m (by omega) x hx
     have h3 := i4 a ha (by rw [h0, Int.toNat_natCast]; exact h2.1)
     rw [h0, h1, Int.toNat_natCast, Int.toNat_natCast] at h3
     exact ⟨h3.1, by have := h3.2; have := h2.2; omega⟩
  ·simp only [lrounds]
   rw [if_neg hm]
   exact ⟨_, rfl⟩
def outInit (n s : Nat) : List S94 := (List.replicate (n + 1) ⟨false, 0⟩).set s ⟨true, 0⟩
theorem outInit_is (hs : s ≤ n) (v : Nat) : isR (outInit n s) v = (if v = s then true else false) ∧ dR (outInit n s) v = 0 := by
 unfold isR dR outInit
 rw [gset _ _ _ _ _ (by rw [List.length_replicate]; omega)]
 split
 ·exact ⟨rfl, rfl⟩
 ·have h : (List.replicate (n + 1) (⟨false, 0⟩ : S94)).getD v z94 = ⟨false, 0⟩ := gets_rep _ _ _
  rw [h]
  exact ⟨rfl, rfl⟩
theorem outInit_RI (hs : s ≤ n) : RI n E s (outInit n s) 0 := by
 have h := outInit_is hs
 have h2 : ∀ v, isR (outInit n s) v = true → v = s := fun v hv => by
  rw [(h v).1] at hv
  split at hv
  ·assumption
  ·cases hv
 refine ⟨by simp [outInit], ⟨by rw [(h s).1, if_pos rfl], by rw [(h s).2]; exact Int.le_refl _⟩, ?_, ?_, fun v _ => (h v).2⟩
 ·intro v hv hk
  rw [(h v).2, h2 v hk]
  exact .nil
 ·intro v hv hk
  rw [(h v).2]
  omega
theorem ref_longest (hn : n ≤ 1200) (hE : ArcsOk n E) (hs : s ≤ n) (hlen : E.length ≤ 100000) (R : FRes) (hR : FarPost n s E R) :
  match R with
  | .loop _ => lrounds (E.map toE) (n + 2) (outInit n s) = ([], false)
  | .done st => Longest n E s (kn st) (sm st) ∧ ∃ out, lrounds (E.map toE) (n + 2) (outInit n s) = (out, true) ∧ out.length = n + 1 ∧ ∀ v, v ≤ n → isR out v = kn st v ∧ dR out v = if kn st v = true then sm st v else 0 := by
 have hB : 0 + (n + 2) * E.length ≤ 1000000000000 := by
  have : (n + 2) * E.length ≤ 1202 * 100000 := Nat.mul_le_mul (by omega) hlen
  omega
 have hini := outInit_RI (n := n) (E := E) hs
 have hclosed : ∀ r, lrounds (E.map toE) (n + 2) (outInit n s) = (r, true) → (∃ B2, RI n E s r B2) ∧ Closed E s (isR r) (dR r) := fun r hr => by
  obtain ⟨⟨B2, h1⟩, h2⟩ := lrounds_true hE (n + 2) _ r 0 hini hB hr
  exact ⟨⟨B2, h1⟩, h1.start.1, h1.start.2, fun a ha hk => h2 a ha hk⟩
 cases R with
 | loop l =>
  obtain ⟨_, hl⟩ := hR
  cases hq : lrounds (E.map toE) (n + 2) (outInit n s) with
  | mk r b =>
   cases b with
   | false => rw [lrounds_false _ _ _ _ hq]
   | true => exact ((hclosed r hq).2.no_loop hl).elim
 | done st =>
  obtain ⟨P, tm, T, hh⟩ := hR
  have hlong := hh.longest hn hE hs
  refine ⟨hlong, ?_⟩
  obtain ⟨r, hr⟩ := lrounds_ends hE hlong (n + 2) 0 (outInit n s) 0 hini hB (by omega) (by omega) (fun m hm v ht => by
   obtain rfl : m = 0 := by omega
   cases ht with
   | nil => exact ⟨hini.start.1, by rw [hlong.zero]; exact hini.start.2⟩)
  obtain ⟨⟨B2, hri⟩, hcl⟩ := hclosed r hr
  have hu := hlong.unique hcl hri.walk
  refine ⟨r, hr, hri.len, fun v hv => ⟨(hu v hv).1, ?_⟩⟩
  split
  ·rename_i hk
   exact (hu v hv).2 hk
  ·rename_i hk
   refine hri.unk v ?_
   rw [(hu v hv).1]
   simpa using hk
end
end
end Go.Proofs.Ytegejpcglabhbaa.G
