/- The reference's Closure and the law SizesTerminates: the walks. No condition. -/
import Derived.Test.YtiepinfcndefhaaVo
namespace Go.Proofs.Ytiepinfcndefhaa.S
open Go.RowKit Go.Proofs.YtiepinfcndefhaaW.PrintWords Go.Proofs.YtiepinfcndefhaaW.PrintLast Go.Proofs.YtiepinfcndefhaaW.PrintMore
set_option linter.unusedVariables false
set_option linter.unusedSimpArgs false

/-- The three rows, a call's arcs, and blocks that hold the call, apart from the rows. -/
structure Pk (w W : World) (v4 v5 v6 : Value) (S T D : List Cl) (c : Cl) (C : Option Addr) (cpc : Nat) (bs : List Nat) : Prop where
  three : Three w W v4 v5 v6 S T D
  arcs : kAc.R 24 W w.heap.size (fun _ => True) (.slice C c.arcs.length cpc) c.arcs
  lits : ∀ b ∈ bs, Blk W b c C cpc ∧ some b ≠ v4.ownBlock ∧ some b ≠ v5.ownBlock ∧ some b ≠ v6.ownBlock
section
variable {w W W2 : World} {v4 v5 v6 v' : Value} {S S' T T' D D' : List Cl} {c : Cl} {C : Option Addr} {cpc : Nat} {bs : List Nat}
theorem Blk.lt {b : Nat} (h : Blk W b c C cpc) : b < W.heap.size := (Array.getElem?_eq_some_iff.1 (show W.heap[b]? = some (.cells #[.string c.src, .string c.dst, .slice C c.arcs.length cpc] 34 (0, 0)) from h)).1
theorem Pk.go (h : Pk w W v4 v5 v6 S T D c C cpc bs) (hb : Below W.heap.size W W2) : Pk w W2 v4 v5 v6 S T D c C cpc bs := ⟨h.three.go hb, Kd.R_below h.arcs hb, fun b m => ⟨(h.lits b m).1.go hb, (h.lits b m).2⟩⟩
theorem Pk.new (t : Three w W v4 v5 v6 S T D) (hc : kAc.R 24 W w.heap.size (fun _ => True) (.slice C c.arcs.length cpc) c.arcs) : Pk w W v4 v5 v6 S T D c C cpc [] := ⟨t, hc, fun b m => by cases m⟩
theorem new_off3 (h : Three w W v4 v5 v6 S T D) {b : Nat} (hb : W.heap.size ≤ b) : some b ≠ v4.ownBlock ∧ some b ≠ v5.ownBlock ∧ some b ≠ v6.ownBlock := ⟨fun e => by
    have := Kd.N_lt h.all b e.symm
    omega, fun e => by
    have := Kd.Q_lt h.todo b e.symm
    omega, fun e => by
    have := Kd.Q_lt h.sing b e.symm
    omega⟩
theorem Pk.add (h : Pk w W v4 v5 v6 S T D c C cpc bs) (hb : Below W.heap.size W W2) (hs : Blk W2 W.heap.size c C cpc) : Pk w W2 v4 v5 v6 S T D c C cpc (W.heap.size :: bs) := by
  refine ⟨h.three.go hb, Kd.R_below h.arcs hb, fun b m => ?_⟩
  rcases List.mem_cons.1 m with rfl | m
  · exact ⟨hs, new_off3 h.three (Nat.le_refl _)⟩
  · exact ⟨(h.lits b m).1.go hb, (h.lits b m).2⟩
theorem Pk.alloc (h : Pk w W v4 v5 v6 S T D c C cpc bs) : Pk w (W.alloc (.cells #[.string c.src, .string c.dst, .slice C c.arcs.length cpc] 34)) v4 v5 v6 S T D c C cpc (W.heap.size :: bs) := h.add (below_alloc (Below.refl _ _) _) (blk_new W _)
/-- A call that is made new, in a new block. -/
theorem Pk.fresh (t : Three w W v4 v5 v6 S T D) (hb : Below W.heap.size W W2) (hc : kAc.R 24 W2 w.heap.size (fun _ => True) (.slice C c.arcs.length cpc) c.arcs) {b : Nat} (hs : Blk W2 b c C cpc) (hge : W.heap.size ≤ b) : Pk w W2 v4 v5 v6 S T D c C cpc [b] :=
  ⟨t.go hb, hc, fun k m => by rw [List.mem_singleton.1 m]; exact ⟨hs, new_off3 t hge⟩⟩
theorem arcs_stay {base : Nat} {u v : Value} {l : List Ac} (h : kAc.R 24 W base (fun _ => True) u l) (hbl : ∀ j, j < W.heap.size → some j ≠ v.ownBlock → W2.heap[j]? = W.heap[j]?) (ht : ∀ j, v.ownBlock = some j → ∃ cells, W.heap[j]? = some (.cells cells 34 (0, 0))) : kAc.R 24 W2 base (fun _ => True) u l := by
  refine Kd.R_mono (Kd.R_step (Kd.R_bound h) ?_) (fun _ _ => trivial)
  rintro k ⟨_, _, hlt, q, hq, cells, hc⟩ _
  have : q = 24 := by
    rcases List.mem_cons.1 hq with e | e
    · exact e
    · cases e
  subst this
  exact hbl k hlt (arcs_ne ⟨cells, hc⟩ ht)
/-- The row in order has changed. -/
theorem Pk.grown4 (h : Pk w W v4 v5 v6 S T D c C cpc bs) (t : Three w W2 v' v5 v6 S' T D) (hbl : ∀ j, j < W.heap.size → some j ≠ v4.ownBlock → W2.heap[j]? = W.heap[j]?) (hat : v'.ownBlock = v4.ownBlock ∨ ∃ b, v'.ownBlock = some b ∧ W.heap.size ≤ b) : Pk w W2 v' v5 v6 S' T D c C cpc bs := by
  refine ⟨t, arcs_stay h.arcs hbl (Kd.N_typed h.three.all), fun b m => ?_⟩
  obtain ⟨q1, q2, q3⟩ := h.lits b m
  exact ⟨(hbl b q1.lt q2).trans q1, off_after q1.lt q2 hat, q3⟩
theorem Pk.grown5 (h : Pk w W v4 v5 v6 S T D c C cpc bs) (t : Three w W2 v4 v' v6 S T' D) (hg : W.grownBy W2 v5.ownBlock) (hat : v'.ownBlock = v5.ownBlock ∨ ∃ b, v'.ownBlock = some b ∧ W.heap.size ≤ b) : Pk w W2 v4 v' v6 S T' D c C cpc bs := by
  refine ⟨t, arcs_stay h.arcs hg.block (Kd.Q_typed h.three.todo), fun b m => ?_⟩
  obtain ⟨q1, q2, q3, q4⟩ := h.lits b m
  exact ⟨(hg.block b q1.lt q3).trans q1, q2, off_after q1.lt q3 hat, q4⟩
theorem Pk.grown6 (h : Pk w W v4 v5 v6 S T D c C cpc bs) (t : Three w W2 v4 v5 v' S T D') (hg : W.grownBy W2 v6.ownBlock) (hat : v'.ownBlock = v6.ownBlock ∨ ∃ b, v'.ownBlock = some b ∧ W.heap.size ≤ b) : Pk w W2 v4 v5 v' S T D' c C cpc bs := by
  refine ⟨t, arcs_stay h.arcs hg.block (Kd.Q_typed h.three.sing), fun b m => ?_⟩
  obtain ⟨q1, q2, q3, q4⟩ := h.lits b m
  exact ⟨(hg.block b q1.lt q4).trans q1, q2, q3, off_after q1.lt q4 hat⟩
theorem Pk.todo (h : Pk w W v4 v5 v6 S T D c C cpc bs) (hT : T.length ≤ 10000) {b : Nat} (hb : b ∈ bs) :
    ∃ v' W2, (Builtin.append_ #[22, 22] 22 #[v5, .slice (some ⟨b, 0, none⟩) 1 1]).run Try.prog W = .ok v' W2 ∧ Pk w W2 v4 v' v6 S (T ++ [c]) D c C cpc bs ∧ W.grownBy W2 v5.ownBlock ∧ (v'.ownBlock = v5.ownBlock ∨ ∃ b, v'.ownBlock = some b ∧ W.heap.size ≤ b) := by
  obtain ⟨v', W2, h1, h2, h3, h4⟩ := h.three.add_todo hT c C cpc h.arcs b (h.lits b hb).1
  exact ⟨v', W2, h1, h.grown5 h2 h3 h4, h3, h4⟩
theorem Pk.sing (h : Pk w W v4 v5 v6 S T D c C cpc bs) (hD : D.length ≤ 10000) {b : Nat} (hb : b ∈ bs) :
    ∃ v' W2, (Builtin.append_ #[22, 22] 22 #[v6, .slice (some ⟨b, 0, none⟩) 1 1]).run Try.prog W = .ok v' W2 ∧ Pk w W2 v4 v5 v' S T (D ++ [c]) c C cpc bs := by
  obtain ⟨v', W2, h1, h2, h3, h4⟩ := h.three.add_sing hD c C cpc h.arcs b (h.lits b hb).1
  exact ⟨v', W2, h1, h.grown6 h2 h3 h4⟩
/-- The row of what is to do, its first one taken. -/
theorem Three.tail {x : Cl} {A : Option Addr} {n cp : Nat} (t : Three w W v4 (.slice A n cp) v6 S (x :: T) D) : Three w W v4 (.slice (if cp = 1 then A else A.map (·.add (1 * 3))) (n - 1) (cp - 1)) v6 S T D := by
  refine t.todo_ (Kd.Q_drop (k := 1) t.todo (by simp)) (grown_none2 (Below.refl _ _)) (.inl ?_)
  split <;> cases A <;> rfl
theorem Pk.tail {x : Cl} {A : Option Addr} {n cp : Nat} (t : Pk w W v4 (.slice A n cp) v6 S (x :: T) D c C cpc bs) : Pk w W v4 (.slice (if cp = 1 then A else A.map (·.add (1 * 3))) (n - 1) (cp - 1)) v6 S T D c C cpc bs := by
  refine t.grown5 t.three.tail (grown_none2 (Below.refl _ _)) (.inl ?_)
  split <;> cases A <;> rfl
theorem tail22 (W : World) (A : Option Addr) (n cp : Nat) (h : (1 : Int) ≤ (n : Int)) : (Instr.slice 22 (.slice A n cp) (some (.int .i64 1)) none none).run Try.prog W = .ok (.slice (if cp = 1 then A else A.map (·.add (1 * 3))) (n - 1) (cp - 1)) W := by
  have hel : Try.prog.elem 22 = 34 := by simp [Program.elem, Try.underlying22]
  have hi : (Try.prog.info? 34).map (·.size) = some 3 := by kernel_rfl
  obtain ⟨i, h1, h2⟩ := Option.map_eq_some_iff.1 hi
  rw [run_slice_l W 22 A n cp (by rw [hel]; exact Try.underlying22) .i64 1 (by omega) h, hel]
  simp [sizeOf, typeInfo, h1, h2, sliced, Result.andThen]
/-- A call of the row of what is to do: where it lies, and its arcs. -/
theorem todo_head {x : Cl} {A : Option Addr} {n cp : Nat} (t : Three w W v4 (.slice A n cp) v6 S (x :: T) D) : ∃ ad X xc, A = some ad ∧ kAc.R 24 W w.heap.size (fun _ => True) (.slice X x.arcs.length xc) x.arcs ∧ W.cell? ad = some (.string x.src) ∧ W.cell? ⟨ad.block, ad.off + 1, none⟩ = some (.string x.dst) ∧ W.cell? ⟨ad.block, ad.off + 2, none⟩ = some (.slice X x.arcs.length xc) := by
  have hn : n = T.length + 1 := (Kd.Q_reads' t.todo).1
  obtain ⟨h0, inner, ho, hr⟩ := t.todo
  have hn' : (x :: T).length = n := by rw [hn]; rfl
  rw [hn'] at ho
  obtain ⟨ad, e1, e2⟩ := q_cells ho (by omega)
  have hk := hr.2 0 x rfl
  obtain ⟨c0, c1, e0, rfl, c2, c3, rfl, rfl, V1, rfl, hra⟩ := hk
  replace hra : kAc.R 24 W w.heap.size (fun k => Off v4 v6 k ∧ some k ≠ (Value.slice A n cp).ownBlock) V1 x.arcs := hra
  obtain ⟨A1, cp1, ev1⟩ := Kd.R_slice hra
  subst ev1
  have e3 : (inner.drop (0 * 3)).take 3 = [Value.string x.src, .string x.dst, .slice A1 x.arcs.length cp1] := e0
  rw [Nat.zero_mul, List.drop_zero] at e3
  have hg : ∀ j, j < 3 → inner[j]? = [Value.string x.src, .string x.dst, .slice A1 x.arcs.length cp1][j]? := fun j hj => by rw [← e3, List.getElem?_take_of_lt hj]
  have r1 : ad.add 1 = ⟨ad.block, ad.off + 1, none⟩ := by simp [Addr.add]
  have r2 : ad.add 2 = ⟨ad.block, ad.off + 2, none⟩ := by simp [Addr.add]
  have q1 := e2 1 _ (hg 1 (by decide))
  have q2 := e2 2 _ (hg 2 (by decide))
  rw [r1] at q1
  rw [r2] at q2
  refine ⟨ad, A1, cp1, e1, Kd.R_mono hra (fun _ _ => trivial), ?_, q1, q2⟩
  have := e2 0 _ (hg 0 (by decide))
  exact this
/-- A call is put into the row in order. -/
theorem Pk.put_calls {m : Cl} {X : Option Addr} {xc : Nat} {bm : List Nat} (hp : Pk w W v4 v5 v6 S T D c C cpc bs) (hm : Pk w W v4 v5 v6 S T D m X xc bm) {all : List Gr} {g : Gr} (hh : Hold S all) (ht : ∀ g ∈ all, GTab g) (hg : GTab g) (hq : c = callG g) (hl : all.length ≤ 10000) {all' : List Gr} {pb : Bool} (ha : (if g ∈ all then all else all ++ [g]) = all') (hpb : (pb = true ↔ g ∉ all)) :
    Calls Try.prog 56 #[v4, .agg #[.string c.src, .string c.dst, .slice C c.arcs.length cpc]] W fun e W2 => ∃ A' c' S', e = .returned (.tuple #[.slice A' all'.length c', .bool pb]) ∧ Hold S' all' ∧ Pk w W2 (.slice A' all'.length c') v5 v6 S' T D c C cpc bs ∧ Pk w W2 (.slice A' all'.length c') v5 v6 S' T D m X xc bm := by
  refine (hp.three.put_calls (by rw [hh.2.1]; exact hl) c C cpc hp.arcs).mono ?_
  rintro e W2 ⟨k, v', h1, h2, h3, h4, h5, h6, _, h7⟩
  have hput := Hold.put hh ht hg (k := k) h1 (by rw [← hq]; exact h2) (by rw [← hq]; exact h3)
  rw [ha, ← hq] at hput
  obtain ⟨A', c', ev⟩ := Kd.N_slice h5.all
  rw [hput.2.2.1] at ev
  subst ev
  have e1 : (putF S c k).2 = pb := by rw [Bool.eq_iff_iff, hput.1, hpb]
  rw [e1] at h4
  exact ⟨A', c', _, h4, hput.2, hp.grown4 h5 h6 h7, hm.grown4 h5 h6 h7⟩
theorem Pk.append_todo {ops : Array Oper} {Q' : Exit → Act → World → Prop} {o : Oper} {rest : List Oper} {a : Act} {m : Cl} {X : Option Addr} {xc : Nat} {bm : List Nat} (h : Pk w W v4 v5 v6 S T D c C cpc bs) (hm : Pk w W v4 v5 v6 S T D m X xc bm) (hT : T.length ≤ 10000) (hgd : o.guard = none) (s x : Operand)
    (ho : o.op = .call { callee := .builtin .append, args := #[s, x], argTypes := #[22, 22] }) (hty : o.type = 22) (hs : a.eval s = v5) (hx : a.eval x = .slice (some ⟨W.heap.size, 0, none⟩) 1 1)
    (hk : ∀ v1 w1, Pk w w1 v4 v1 v6 S (T ++ [c]) D m X xc bm → wpList Try.prog ops Q' rest (a.put o.dst v1) w1) :
    wpList Try.prog ops Q' (o :: rest) a (W.alloc (.cells #[.string c.src, .string c.dst, .slice C c.arcs.length cpc] 34)) := by
  obtain ⟨v1, w1, hr, h1, h2, h3⟩ := h.alloc.todo hT (b := W.heap.size) (List.mem_cons_self ..)
  have h4 := (hm.go (below_alloc (Below.refl _ _) (.cells #[.string c.src, .string c.dst, .slice C c.arcs.length cpc] 34))).grown5 h1.three h2 h3
  refine wpList_plain hgd fun K hK => ?_
  unfold Oper.wp execOp
  simp only [ho, hty, resolve, invoke, builtin, Sem.run_bind, Sem.run_pure, Result.andThen_ok, List.map_toArray, List.map_cons, List.map_nil, hs, hx, hr]
  exact hK _ _ (hk v1 w1 h4)
end

theorem dd_mem : ∀ (L acc : List Gr) (x : Gr), x ∈ dd acc L → x ∈ L
  | [], _, _, h => h
  | y :: t, acc, x, h => by
    by_cases hy : y ∈ acc
    · rw [show dd acc (y :: t) = dd acc t from if_pos hy] at h
      exact List.mem_cons_of_mem _ (dd_mem t acc x h)
    · rw [show dd acc (y :: t) = y :: dd (acc ++ [y]) t from if_neg hy] at h
      rcases List.mem_cons.1 h with rfl | h
      · exact List.mem_cons_self ..
      · exact List.mem_cons_of_mem _ (dd_mem t _ x h)
theorem run_pop {L : List Gr} {d p : Nat} {all : List Gr} (h : p < all.length) : runG L (d + 1) p all = (extG all[p] L all).bind (runG L d (p + 1)) := by
  simp only [runG]
  rw [if_pos h, show all.getD p g0 = all[p] by rw [List.getD_eq_getElem?_getD, List.getElem?_eq_getElem h]; rfl]
theorem run_end {L : List Gr} {d p : Nat} {all : List Gr} (h : ¬ p < all.length) : runG L d p all = some all := by
  cases d with
  | zero => rfl
  | succ d => exact if_neg h
section
variable {m : Gr} {L all : List Gr} {i : Nat}
theorem ext_end (h : ¬ i < L.length) : extG m (L.drop i) all = some all := by
  rw [List.drop_eq_nil_of_le (by omega)]
  rfl
theorem ext_skip (hi : i < L.length) (h : L[i].src ≠ m.dst) : extG m (L.drop i) all = extG m (L.drop (i + 1)) all := by
  rw [List.drop_eq_getElem_cons hi]
  exact if_neg (fun e => h e.symm)
theorem ext_yes (hi : i < L.length) (h : L[i].src = m.dst) : extG m (L.drop i) all = (addG all (thenG m L[i])).bind (extG m (L.drop (i + 1))) := by
  rw [List.drop_eq_getElem_cons hi]
  exact if_pos h.symm
end
theorem add_in {all : List Gr} {g : Gr} (h : g ∈ all) : addG all g = some all := if_pos h
theorem add_new {all : List Gr} {g : Gr} (h : g ∉ all) (hl : ¬ 2000 < all.length + 1) : addG all g = some (all ++ [g]) := (if_neg h).trans (if_neg hl)
theorem add_full {all : List Gr} {g : Gr} (h : g ∉ all) (hl : 2000 < all.length + 1) : addG all g = none := (if_neg h).trans (if_pos hl)
theorem comp_callG {m h : Gr} (hm : GTab m) (hh : GTab h) : callG ⟨(callG m).src, (callG h).dst, comp (tabC (callG m).arcs) (tabC (callG h).arcs)⟩ = callG (thenG m h) := by
  rw [show tabC (callG m).arcs = m.tab from tabC_arcsN hm, show tabC (callG h).arcs = h.tab from tabC_arcsN hh]
  rfl
/-- What Closure answers. -/
def RC (l : List Cl) (w : World) (e : Ending) (w' : World) : Prop := (∃ a, closedF l 4 2 = (some a, 0) ∧ ROut l a w e w') ∨ ∃ x, closedF l 4 2 = (none, x) ∧ x ≠ 0 ∧ e = .returned (.tuple #[.slice none 0 0, .int .i64 x]) ∧ Below w.heap.size w w'
theorem RC.full {l : List Cl} {w w' : World} (h60 : l.length ≤ 60) (hv : l.all valC = true) (hq : (closedQ (l.map fC)).map fsts = none) (hb : Below w.heap.size w w') : RC l w (.returned (.tuple #[.slice none 0 0, .int .i64 2])) w' := by
  rcases closedF_good h60 hv with ⟨a, h1, h2⟩ | ⟨h1, h2⟩
  · rw [h2] at hq
    cases hq
  · exact .inr ⟨2, h1, by decide, rfl, hb⟩
theorem RC.good {l : List Cl} {w w' : World} {all : List Gr} {S : List Cl} {A : Option Addr} {n cp : Nat} (h60 : l.length ≤ 60) (hv : l.all valC = true) (hq : (closedQ (l.map fC)).map fsts = some all) (hh : Hold S all) (hl : all.length ≤ 2000) {ok : Nat → Prop} (hr : Kd.N kCl 34 w' w.heap.size ok (.slice A n cp) S) (hb : Below w.heap.size w w') : RC l w (.returned (.tuple #[.slice A n cp, .int .i64 0])) w' := by
  rcases closedF_good h60 hv with ⟨a, h1, h2⟩ | ⟨h1, h2⟩
  · rw [h2] at hq
    have ha : fsts a = all := by
      rw [Option.map_some] at hq
      exact Option.some.inj hq
    obtain ⟨e1, e2, e3⟩ := Kd.N_reads' hr
    subst e1
    refine .inl ⟨a, h1, A, cp, S, rfl, e3, by rw [hh.2.1]; omega, fun c => ?_, hh.1, hb⟩
    rw [hh.2.2, ← ha, List.map_map, List.mem_map]
    exact ⟨fun ⟨m, h1, h2⟩ => ⟨m, h1, h2.symm⟩, fun ⟨m, h1, h2⟩ => ⟨m, h1, h2.symm⟩⟩
  · rw [h2] at hq
    cases hq

theorem tab_of {l : List Cl} {i : Nat} {D : List Gr} (hD : D = dd [] ((l.map fC).take i)) (hv : ∀ c ∈ l.take i, valC c = true) : ∀ g ∈ D, GTab g := by
  intro g hg
  rw [hD] at hg
  have h1 := dd_mem _ _ _ hg
  rw [← List.map_take] at h1
  obtain ⟨d, hd, rfl⟩ := List.mem_map.1 h1
  exact fC_tab (hv d hd)
theorem len_of {l : List Cl} {i : Nat} {D : List Gr} (hD : D = dd [] ((l.map fC).take i)) (hl : l.length ≤ 60) : D.length ≤ 60 := by
  have h2 := dd_len ((l.map fC).take i) []
  rw [← hD, List.length_take, List.length_map] at h2
  omega
theorem more_of {l : List Cl} {i : Nat} {c : Cl} (hi : i < l.length) (hc : l[i] = c) (hv : ∀ c ∈ l.take i, valC c = true) (h : valC c = true) : ∀ c ∈ l.take (i + 1), valC c = true := by
  intro d hd
  rw [List.take_succ_eq_append_getElem hi, List.mem_append, List.mem_singleton, hc] at hd
  rcases hd with hd | rfl
  · exact hv d hd
  · exact h
theorem dd_more {l : List Cl} {i : Nat} {c : Cl} {D : List Gr} (hi : i < l.length) (hc : l[i] = c) (hD : D = dd [] ((l.map fC).take i)) : (if fC c ∈ D then D else D ++ [fC c]) = dd [] ((l.map fC).take (i + 1)) := by
  rw [dd_take (by rw [List.length_map]; exact hi), List.getElem_map, hc, ← hD]
set_option maxHeartbeats 8000000 in
set_option maxRecDepth 100000 in
theorem rclosure_calls (A : Option Addr) (cp : Nat) (l : List Cl) (w : World) (hl : kCl.C w A l.length l) (hlen : l.length ≤ 1000000) : Calls Try.prog 27 #[.slice A l.length cp] w (RC l w) := by
  have HL := Aside0.mk hl
  by_cases hb : 60 < l.length
  · have HR := Aside0.mk (show closedF l 4 2 = (none, 2) from if_pos hb)
    have g1 : decide ((60 : Int) < (l.length : Int)) = true := decide_eq_true (by omega)
    clear hl hlen
    go_enter Try.func27, Try.ntmps27
    go_wp2
    go_ret2
    exact .inr ⟨2, HR.out, by decide, rfl, Below.refl _ _⟩
  · have H60 := Aside0.mk (show l.length ≤ 60 by omega)
    have g1 : decide ((60 : Int) < (l.length : Int)) = false := decide_eq_false (by omega)
    clear hl hlen
    go_enter Try.func27, Try.ntmps27
    go_wp2
    clear g1 hb
    go_loopg [4, 5, 6, 7] l.length (fun kq v4 v5 v6 v7 w' => ∃ (i : Nat) (S : List Cl) (D : List Gr), v7 = .int .i64 (i : Int) ∧ Aside0 (kq + i = l.length) ∧ Aside0 (D = dd [] ((l.map fC).take i)) ∧ Aside0 (∀ c ∈ l.take i, valC c = true) ∧ Aside0 (Hold S D) ∧ Aside0 (Three w w' v4 v5 v6 S (D.map callG) (D.map callG)))
    case atStart => exact ⟨0, [], [], rfl, ⟨by omega⟩, ⟨rfl⟩, ⟨fun c hc => by simp at hc⟩, ⟨⟨List.Pairwise.nil, rfl, fun c => by simp⟩⟩, ⟨Three.nil w⟩⟩
    case round =>
      obtain ⟨i, S, D, rfl, HK, HD, HV, HH, HT⟩ := hrel
      by_cases hlt : i < l.length
      · have hdx : decide ((i : Int) < (l.length : Int)) = true := decide_eq_true (by omega)
        have hi0 : (i : Int) < (l.length : Int) := by omega
        have hib : wrap64 ((i : Int) + 1) = (i : Int) + 1 := by have := H60.out; unfold wrap64; omega
        have HLT := Aside0.mk hlt
        obtain ⟨ad, X, xc, ea, hxc, hx, hqa⟩ := cl_get2 (Kd.C_below HL.out HT.out.below) i hlt
        obtain ⟨z0, z1, z2⟩ := hqa wr (Below.refl _ _)
        have HX := Aside0.mk hx
        have HQA := Aside0.mk hqa
        have HVC := Aside0.mk (valid_calls X xc l[i] wr hx)
        have HEI := Aside0.mk (fun c (h : l[i] = c) => h)
        have HEJ := Aside0.mk (show l[i]? = some l[i] from List.getElem?_eq_getElem hlt)
        have HDM := Aside0.mk (dd_more hlt rfl HD.out)
        have HVM := Aside0.mk (fun h => more_of hlt rfl HV.out h)
        subst ea
        clear hqa hxc hx HEI
        generalize l[i] = c at z0 z1 z2 HX HQA HVC HEJ HDM HVM
        generalize hvb : valC c = vb at HVC
        have HVB := Aside0.mk hvb
        clear hvb
        cases vb with
        | false =>
          clear HVM
          go_wp2_with (go_at_call 48; refine HVC.out.mono ?_; rintro e w9 ⟨rfl, hb9⟩; have HB9 := Aside0.mk (below_step HT.out.below hb9); clear hb9)
          go_ret2
          refine .inr ⟨4, closedF_bad H60.out ?_, by decide, rfl, HB9.out⟩
          rw [Bool.eq_false_iff]
          intro h
          have h1 := List.all_eq_true.1 h c (List.mem_of_getElem? HEJ.out)
          rw [HVB.out] at h1
          cases h1
        | true =>
          have HVN := Aside0.mk (HVM.out HVB.out)
          have HDL := Aside0.mk (show D.length ≤ 10000 by have := len_of HD.out H60.out; omega)
          have HGT := Aside0.mk (tab_of HD.out HV.out)
          have HGC := Aside0.mk (fC_tab HVB.out)
          have hok := arcs_ok HVB.out
          have HOK := Aside0.mk hok
          obtain ⟨q, hq⟩ : ∃ x, x = callG (⟨c.src, c.dst, tabC c.arcs⟩ : Gr) := ⟨_, rfl⟩
          have HQ := Aside0.mk hq
          have HQD := Aside0.mk (show q = callG (fC c) from hq)
          clear hq hok HVM HEJ
          by_cases hin : fC c ∈ D
          · have HA := Aside0.mk (show (if fC c ∈ D then D else D ++ [fC c]) = D from if_pos hin)
            have HPB := Aside0.mk (show (false = true ↔ fC c ∉ D) from ⟨fun h => Bool.noConfusion h, fun h => absurd hin h⟩)
            clear hin
            go_wp2_with (first | (go_at_call 48; refine HVC.out.mono ?_; rintro e w9 ⟨rfl, hb9⟩; have HB9 := Aside0.mk hb9; obtain ⟨z0, z1, z2⟩ := HQA.out w9 hb9; clear hb9) | (go_at_call 43; refine (normal_calls X xc c _ (Kd.C_below HX.out HB9.out) HOK.out).mono ?_; rw [← HQ.out]; rintro e w10 ⟨v10, rfl, ⟨u10, rfl, hr10⟩, hb10⟩; obtain ⟨A9, c9, ev9⟩ := Kd.R_slice hr10; subst ev9; have HPK := Aside0.mk ((Pk.new (HT.out.go (below_step HB9.out hb10)) (Kd.R_lower hr10 (below_step HT.out.below HB9.out).size)).alloc); clear z0 z1 z2 hb10 hr10) | (go_at_call 56; refine (Pk.put_calls HPK.out HPK.out HH.out HGT.out HGC.out HQD.out HDL.out HA.out HPB.out).mono ?_; rintro e w11 ⟨A11, c11, S11, rfl, hh11, hp11, _⟩; have HH11 := Aside0.mk hh11; have HP11 := Aside0.mk hp11; clear hh11 hp11))
            go_roundg (l.length - i - 1)
            case measure => have := HK.out; omega
            case rel => exact ⟨i + 1, S11, D, by go_num, ⟨by have := HK.out; have := HLT.out; omega⟩, ⟨by rw [← HDM.out, HA.out]⟩, HVN, HH11, ⟨HP11.out.three⟩⟩
          · obtain ⟨D2, hD2⟩ : ∃ x, x = D ++ [fC c] := ⟨_, rfl⟩
            have HD2 := Aside0.mk hD2
            have HA := Aside0.mk (show (if fC c ∈ D then D else D ++ [fC c]) = D2 from (if_neg hin).trans hD2.symm)
            clear hD2
            have HNI := Aside0.mk hin
            clear hin
            go_wp2_with (first | (go_at_call 48; refine HVC.out.mono ?_; rintro e w9 ⟨rfl, hb9⟩; have HB9 := Aside0.mk hb9; obtain ⟨z0, z1, z2⟩ := HQA.out w9 hb9; clear hb9) | (go_at_call 43; refine (normal_calls X xc c _ (Kd.C_below HX.out HB9.out) HOK.out).mono ?_; rw [← HQ.out]; rintro e w10 ⟨v10, rfl, ⟨u10, rfl, hr10⟩, hb10⟩; obtain ⟨A9, c9, ev9⟩ := Kd.R_slice hr10; subst ev9; have HPK := Aside0.mk ((Pk.new (HT.out.go (below_step HB9.out hb10)) (Kd.R_lower hr10 (below_step HT.out.below HB9.out).size)).alloc); clear z0 z1 z2 hb10 hr10) | (go_at_call 56; refine (Pk.put_calls HPK.out HPK.out HH.out HGT.out HGC.out HQD.out HDL.out HA.out (pb := true) ⟨fun _ => HNI.out, fun _ => rfl⟩).mono ?_; rintro e w11 ⟨A11, c11, S11, rfl, hh11, hp11, _⟩; have HH11 := Aside0.mk hh11; have HP11 := Aside0.mk hp11; clear hh11 hp11))
            clear HPK HX HQA HVC HOK HB9 HQ
            have HTL := Aside0.mk (show (D.map callG).length ≤ 10000 by rw [List.length_map]; exact HDL.out)
            generalize w10.heap.size = b8 at HP11 ⊢
            clear hdx hi0
            refine start_ (n := 10) (S := fun w' => Blk w' b8 q A9 c9) (ds := []) #[false, false, false, false, false, false, false, false, false, false] (by kernel_rfl) rfl rfl ((HP11.out.lits b8 (List.mem_cons_self ..)).1.go (below_drew1 (Below.refl _ _))) (fun hHeld => ?_)
            refine pure_ (i := 0) (N := some 44) (v := ?_) (a' := ?_) #[true, false, false, false, false, false, false, false, false, false] rfl rfl (by kernel_rfl) (fun _ _ _ h => h) (Or.inl ⟨by rfl, ?_⟩) ?_ ?_
            rotate_left
            · intro w'
              go_simp
              with_reducible rfl
            rotate_left
            · simp only [Act.put, List.setIfInBounds_toArray, List.set_cons_zero, List.set_cons_succ, i64_w, i32_w]
              rfl
            refine take_ (i := 1) (N := some 45) (v := ?_) (a' := ?_) #[true, true, false, false, false, false, false, false, false, false] rfl rfl (by kernel_rfl) (fun _ _ _ h => h) (Or.inl ⟨by rfl, ?_⟩) hHeld ?_ ?_
            rotate_left
            · rintro w' s0
              obtain ⟨y0, y1, y2⟩ := Blk.cells s0
              go_simp
              with_reducible rfl
            rotate_left
            · simp only [Act.put, List.setIfInBounds_toArray, List.set_cons_zero, List.set_cons_succ, i64_w, i32_w]
              rfl
            refine pure_ (i := 4) (N := some 48) (v := ?_) (a' := ?_) #[true, true, false, false, true, false, false, false, false, false] rfl rfl (by kernel_rfl) (fun _ _ _ h => h) (Or.inl ⟨by rfl, ?_⟩) ?_ ?_
            rotate_left
            · intro w'
              go_simp
              with_reducible rfl
            rotate_left
            · simp only [Act.put, List.setIfInBounds_toArray, List.set_cons_zero, List.set_cons_succ, i64_w, i32_w]
              rfl
            refine take_ (i := 5) (N := some 49) (v := ?_) (a' := ?_) #[true, true, false, false, true, true, false, false, false, false] rfl rfl (by kernel_rfl) (fun _ _ _ h => h) (Or.inl ⟨by rfl, ?_⟩) hHeld ?_ ?_
            rotate_left
            · rintro w' s0
              obtain ⟨y0, y1, y2⟩ := Blk.cells s0
              go_simp
              with_reducible rfl
            rotate_left
            · simp only [Act.put, List.setIfInBounds_toArray, List.set_cons_zero, List.set_cons_succ, i64_w, i32_w]
              rfl
            have HP0 := Aside0.mk (HP11.out.go (below_drew1 (Below.refl _ _)))
            refine join_ (σ := (Nat × Nat) × Value × Value) 2 #[true, true, true, true, true, true, true, true, false, false] (fun r => [(46, .slice (some ⟨r.1.1, 0, none⟩) 1 1), (47, r.2.1), (50, .slice (some ⟨r.1.2, 0, none⟩) 1 1), (51, r.2.2)]) (fun r w' => Three w w' (.slice A11 D2.length c11) r.2.1 r.2.2 S11 (D.map callG ++ [q]) (D.map callG ++ [q])) ?cont ?paths
            case paths =>
              intro HK
              have HJ := Aside0.mk HK
              clear HK hHeld
              refine two_ (i := 2) (j := 6) (Ni := some 46) (Nj := some 50) #[true, true, true, false, true, true, false, false, false, false] #[true, true, false, false, true, true, true, false, false, false] rfl rfl rfl rfl (by kernel_rfl) (by decide) (by decide) (fun K hK => ?_) (fun K hK => ?_)
              · refine value_ (by rfl) rfl (w1 := (World.alloc w11.drew (.cells #[.string q.src, .string q.dst, .slice A9 q.arcs.length c9] 34))) (v := .slice (some ⟨(w11.drew).heap.size, 0, none⟩) 1 1) (by go_simp) ?_
                have HP1 := Aside0.mk (HP0.out.alloc)
                refine hK.out _ _ (HP1.out.lits b8 (List.mem_cons_of_mem _ (List.mem_cons_self ..))).1 (fun _ => ?_)
                clear hK
                refine two_ (i := 3) (j := 6) (Ni := some 47) (Nj := some 50) #[true, true, true, true, true, true, false, false, false, false] #[true, true, true, false, true, true, true, false, false, false] rfl rfl rfl rfl (by kernel_rfl) (by decide) (by decide) (fun K hK => ?_) (fun K hK => ?_)
                · obtain ⟨u2, w22, hrun, hp', _, _⟩ := HP1.out.todo HTL.out (b := (w11.drew).heap.size) (List.mem_cons_self ..)
                  have HRUN := Aside0.mk hrun
                  have HP2 := Aside0.mk hp'
                  clear hrun hp'
                  refine value_ (by rfl) rfl (w1 := w22) (v := u2) (append_run22 (s := .tmp 44) (x := .tmp 46) rfl rfl (by rfl) (by rfl) HRUN.out) ?_
                  refine hK.out _ _ (HP2.out.lits b8 (List.mem_cons_of_mem _ (List.mem_cons_self ..))).1 (fun _ => ?_)
                  clear hK
                  refine one_ (i := 6) (N := some 50) #[true, true, true, true, true, true, true, false, false, false] rfl rfl (by kernel_rfl) (by decide) (fun K hK => ?_)
                  refine value_ (by rfl) rfl (w1 := (World.alloc w22 (.cells #[.string q.src, .string q.dst, .slice A9 q.arcs.length c9] 34))) (v := .slice (some ⟨(w22).heap.size, 0, none⟩) 1 1) (by go_simp) ?_
                  have HP3 := Aside0.mk (HP2.out.alloc)
                  refine hK.out _ _ (HP3.out.lits b8 (List.mem_cons_of_mem _ (List.mem_cons_of_mem _ (List.mem_cons_self ..)))).1 (fun _ => ?_)
                  clear hK
                  refine one_ (i := 7) (N := some 51) #[true, true, true, true, true, true, true, true, false, false] rfl rfl (by kernel_rfl) (by decide) (fun K hK => ?_)
                  obtain ⟨u4, w24, hrun, hp'⟩ := HP3.out.sing HTL.out (b := (w22).heap.size) (List.mem_cons_self ..)
                  have HRUN := Aside0.mk hrun
                  have HP4 := Aside0.mk hp'
                  clear hrun hp'
                  refine value_ (by rfl) rfl (w1 := w24) (v := u4) (append_run22 (s := .tmp 48) (x := .tmp 50) rfl rfl (by rfl) (by rfl) HRUN.out) ?_
                  refine hK.out _ _ (HP4.out.lits b8 (List.mem_cons_of_mem _ (List.mem_cons_of_mem _ (List.mem_cons_self ..)))).1 (fun _ => ?_)
                  clear hK
                  refine norm_ ?_ (HJ.out (((w11.drew).heap.size, (w22).heap.size), u2, u4) _ HP4.out.three)
                  simp only [putAll, Act.put, List.setIfInBounds_toArray, List.set_cons_zero, List.set_cons_succ]
                · refine value_ (by rfl) rfl (w1 := (World.alloc (World.alloc w11.drew (.cells #[.string q.src, .string q.dst, .slice A9 q.arcs.length c9] 34)) (.cells #[.string q.src, .string q.dst, .slice A9 q.arcs.length c9] 34))) (v := .slice (some ⟨((World.alloc w11.drew (.cells #[.string q.src, .string q.dst, .slice A9 q.arcs.length c9] 34))).heap.size, 0, none⟩) 1 1) (by go_simp) ?_
                  have HP5 := Aside0.mk (HP1.out.alloc)
                  refine hK.out _ _ (HP5.out.lits b8 (List.mem_cons_of_mem _ (List.mem_cons_of_mem _ (List.mem_cons_self ..)))).1 (fun _ => ?_)
                  clear hK
                  refine one_ (i := 3) (N := some 47) #[true, true, true, true, true, true, true, false, false, false] rfl rfl (by kernel_rfl) (by decide) (fun K hK => ?_)
                  obtain ⟨u6, w26, hrun, hp', _, _⟩ := HP5.out.todo HTL.out (b := (w11.drew).heap.size) (List.mem_cons_of_mem _ (List.mem_cons_self ..))
                  have HRUN := Aside0.mk hrun
                  have HP6 := Aside0.mk hp'
                  clear hrun hp'
                  refine value_ (by rfl) rfl (w1 := w26) (v := u6) (append_run22 (s := .tmp 44) (x := .tmp 46) rfl rfl (by rfl) (by rfl) HRUN.out) ?_
                  refine hK.out _ _ (HP6.out.lits b8 (List.mem_cons_of_mem _ (List.mem_cons_of_mem _ (List.mem_cons_self ..)))).1 (fun _ => ?_)
                  clear hK
                  refine one_ (i := 7) (N := some 51) #[true, true, true, true, true, true, true, true, false, false] rfl rfl (by kernel_rfl) (by decide) (fun K hK => ?_)
                  obtain ⟨u7, w27, hrun, hp'⟩ := HP6.out.sing HTL.out (b := ((World.alloc w11.drew (.cells #[.string q.src, .string q.dst, .slice A9 q.arcs.length c9] 34))).heap.size) (List.mem_cons_self ..)
                  have HRUN := Aside0.mk hrun
                  have HP7 := Aside0.mk hp'
                  clear hrun hp'
                  refine value_ (by rfl) rfl (w1 := w27) (v := u7) (append_run22 (s := .tmp 48) (x := .tmp 50) rfl rfl (by rfl) (by rfl) HRUN.out) ?_
                  refine hK.out _ _ (HP7.out.lits b8 (List.mem_cons_of_mem _ (List.mem_cons_of_mem _ (List.mem_cons_self ..)))).1 (fun _ => ?_)
                  clear hK
                  refine norm_ ?_ (HJ.out (((w11.drew).heap.size, ((World.alloc w11.drew (.cells #[.string q.src, .string q.dst, .slice A9 q.arcs.length c9] 34))).heap.size), u6, u7) _ HP7.out.three)
                  simp only [putAll, Act.put, List.setIfInBounds_toArray, List.set_cons_zero, List.set_cons_succ]
              · refine value_ (by rfl) rfl (w1 := (World.alloc w11.drew (.cells #[.string q.src, .string q.dst, .slice A9 q.arcs.length c9] 34))) (v := .slice (some ⟨(w11.drew).heap.size, 0, none⟩) 1 1) (by go_simp) ?_
                have HP8 := Aside0.mk (HP0.out.alloc)
                refine hK.out _ _ (HP8.out.lits b8 (List.mem_cons_of_mem _ (List.mem_cons_self ..))).1 (fun _ => ?_)
                clear hK
                refine one_ (i := 2) (N := some 46) #[true, true, true, false, true, true, true, false, false, false] rfl rfl (by kernel_rfl) (by decide) (fun K hK => ?_)
                refine value_ (by rfl) rfl (w1 := (World.alloc (World.alloc w11.drew (.cells #[.string q.src, .string q.dst, .slice A9 q.arcs.length c9] 34)) (.cells #[.string q.src, .string q.dst, .slice A9 q.arcs.length c9] 34))) (v := .slice (some ⟨((World.alloc w11.drew (.cells #[.string q.src, .string q.dst, .slice A9 q.arcs.length c9] 34))).heap.size, 0, none⟩) 1 1) (by go_simp) ?_
                have HP9 := Aside0.mk (HP8.out.alloc)
                refine hK.out _ _ (HP9.out.lits b8 (List.mem_cons_of_mem _ (List.mem_cons_of_mem _ (List.mem_cons_self ..)))).1 (fun _ => ?_)
                clear hK
                refine one_ (i := 3) (N := some 47) #[true, true, true, true, true, true, true, false, false, false] rfl rfl (by kernel_rfl) (by decide) (fun K hK => ?_)
                obtain ⟨u10, w30, hrun, hp', _, _⟩ := HP9.out.todo HTL.out (b := ((World.alloc w11.drew (.cells #[.string q.src, .string q.dst, .slice A9 q.arcs.length c9] 34))).heap.size) (List.mem_cons_self ..)
                have HRUN := Aside0.mk hrun
                have HP10 := Aside0.mk hp'
                clear hrun hp'
                refine value_ (by rfl) rfl (w1 := w30) (v := u10) (append_run22 (s := .tmp 44) (x := .tmp 46) rfl rfl (by rfl) (by rfl) HRUN.out) ?_
                refine hK.out _ _ (HP10.out.lits b8 (List.mem_cons_of_mem _ (List.mem_cons_of_mem _ (List.mem_cons_self ..)))).1 (fun _ => ?_)
                clear hK
                refine one_ (i := 7) (N := some 51) #[true, true, true, true, true, true, true, true, false, false] rfl rfl (by kernel_rfl) (by decide) (fun K hK => ?_)
                obtain ⟨u11, w31, hrun, hp'⟩ := HP10.out.sing HTL.out (b := (w11.drew).heap.size) (List.mem_cons_of_mem _ (List.mem_cons_self ..))
                have HRUN := Aside0.mk hrun
                have HP11 := Aside0.mk hp'
                clear hrun hp'
                refine value_ (by rfl) rfl (w1 := w31) (v := u11) (append_run22 (s := .tmp 48) (x := .tmp 50) rfl rfl (by rfl) (by rfl) HRUN.out) ?_
                refine hK.out _ _ (HP11.out.lits b8 (List.mem_cons_of_mem _ (List.mem_cons_of_mem _ (List.mem_cons_self ..)))).1 (fun _ => ?_)
                clear hK
                refine norm_ ?_ (HJ.out ((((World.alloc w11.drew (.cells #[.string q.src, .string q.dst, .slice A9 q.arcs.length c9] 34))).heap.size, (w11.drew).heap.size), u10, u11) _ HP11.out.three)
                simp only [putAll, Act.put, List.setIfInBounds_toArray, List.set_cons_zero, List.set_cons_succ]
            case cont =>
              rintro ⟨⟨r2, r6⟩, u5, u6⟩ w12 hp
              have HTZ := Aside0.mk (show Three w w12 (.slice A11 D2.length c11) u5 u6 S11 (D.map callG ++ [q]) (D.map callG ++ [q]) from hp)
              clear hHeld hp
              refine norm_ (a' := ?_) ?_ ?_
              rotate_left
              · simp only [putAll, Act.put, List.setIfInBounds_toArray, List.set_cons_zero, List.set_cons_succ]
                rfl
              refine pure_ (i := 8) (N := some 5) (v := ?_) (a' := ?_) #[true, true, true, true, true, true, true, true, true, false] rfl rfl (by kernel_rfl) (fun _ _ _ h => h) (Or.inl ⟨by rfl, ?_⟩) ?_ ?_
              rotate_left
              · intro w'
                go_simp
                with_reducible rfl
              rotate_left
              · simp only [Act.put, List.setIfInBounds_toArray, List.set_cons_zero, List.set_cons_succ, i64_w, i32_w]
                rfl
              refine pure_ (i := 9) (N := some 6) (v := ?_) (a' := ?_) #[true, true, true, true, true, true, true, true, true, true] rfl rfl (by kernel_rfl) (fun _ _ _ h => h) (Or.inl ⟨by rfl, ?_⟩) ?_ ?_
              rotate_left
              · intro w'
                go_simp
                with_reducible rfl
              rotate_left
              · simp only [Act.put, List.setIfInBounds_toArray, List.set_cons_zero, List.set_cons_succ, i64_w, i32_w]
                rfl
              refine done_ (by kernel_rfl) ?_
              go_wp2
              go_roundg (l.length - i - 1)
              case measure => have := HK.out; omega
              case rel => exact ⟨i + 1, S11, D2, by go_num, ⟨by have := HK.out; have := HLT.out; omega⟩, ⟨by rw [← HDM.out, HA.out]⟩, HVN, HH11, ⟨by rw [HD2.out, List.map_append, List.map_cons, List.map_nil, ← HQD.out, ← HD2.out]; exact HTZ.out⟩⟩
      · have hdx : decide ((i : Int) < (l.length : Int)) = false := decide_eq_false (by omega)
        have HVA := Aside0.mk (show l.all valC = true from List.all_eq_true.2 (fun c hc => HV.out c (by rw [List.take_of_length_le (by omega)]; exact hc)))
        have HG0 := Aside0.mk (tab_of HD.out HV.out)
        have HL0 := Aside0.mk (len_of HD.out H60.out)
        have HCQ := Aside0.mk (show (closedQ (l.map fC)).map fsts = runG D 2001 0 D by
          have htk : (l.map fC).take i = l.map fC := List.take_of_length_le (by rw [List.length_map]; omega)
          rw [HD.out, htk]
          exact closedQ_map (by rw [List.length_map]; exact H60.out))
        obtain ⟨A6, c6, ev6, hle6, hc6⟩ := Kd.Q_reads HT.out.sing
        rw [List.length_map] at ev6
        subst ev6
        clear HK HD HV hle6 hc6
        go_wp2
        clear hdx hlt
        go_loopg [4, 5] 2001 (fun kq v4 v5 w' => ∃ (d p : Nat) (S : List Cl) (all : List Gr), Aside0 (kq = d) ∧ Aside0 (d + p = 2001) ∧ Aside0 (Hold S all) ∧ Aside0 (∀ g ∈ all, GTab g) ∧ Aside0 (all.length ≤ 2000) ∧ Aside0 (p ≤ all.length) ∧ Aside0 ((closedQ (l.map fC)).map fsts = runG D d p all) ∧ Aside0 (Three w w' v4 v5 (.slice A6 D.length c6) S ((all.drop p).map callG) (D.map callG)))
        case atStart => exact ⟨2001, 0, S, D, ⟨rfl⟩, ⟨rfl⟩, HH, HG0, ⟨by have := HL0.out; omega⟩, ⟨Nat.zero_le _⟩, HCQ, HT⟩
        case round =>
          clear HH HT HCQ
          obtain ⟨d, p, S, all, HKD, HK, HH, HGT, HAL, HPL, HCQ, HT⟩ := hrel
          obtain ⟨A5, c5, ev5, hle5, hc5⟩ := Kd.Q_reads HT.out.todo
          rw [List.length_map, List.length_drop] at ev5
          subst ev5
          clear hle5 hc5
          by_cases hlt : p < all.length
          · obtain ⟨n5, hn5⟩ : ∃ n, n = all.length - p := ⟨_, rfl⟩
            rw [← hn5] at HT
            rw [← hn5]
            have hdx : decide ((0 : Int) < (n5 : Int)) = true := decide_eq_true (by omega)
            have q0 : (0 : Int) < (n5 : Int) := by omega
            have q2 : 0 < n5 := by omega
            have q1 : (1 : Int) ≤ (n5 : Int) := by omega
            have HLP := Aside0.mk hlt
            obtain ⟨d', hd'⟩ : ∃ e, d = e + 1 := ⟨d - 1, by have := HK.out; have := HAL.out; omega⟩
            subst hd'
            have HC1 := Aside0.mk (HCQ.out.trans (run_pop hlt))
            have HT1 := Aside0.mk (show Three w wr u4 (.slice A5 n5 c5) (.slice A6 D.length c6) S (callG all[p] :: (all.drop (p + 1)).map callG) (D.map callG) by
              have h1 := HT.out
              rw [List.drop_eq_getElem_cons hlt, List.map_cons] at h1
              exact h1)
            have HGM := Aside0.mk (HGT.out all[p] (List.getElem_mem hlt))
            clear HCQ HT hn5
            generalize all[p] = m at HC1 HT1 HGM
            obtain ⟨cm, hcm⟩ : ∃ x, x = callG m := ⟨_, rfl⟩
            rw [← hcm] at HT1
            have HCM := Aside0.mk hcm
            obtain ⟨ad, X, xc, e5, hra, z0, z1, z2⟩ := todo_head HT1.out
            subst e5
            have HPM := Aside0.mk ((Pk.new HT1.out hra).alloc.tail)
            have hcut := fun W => tail22 W (some ad) n5 c5 q1
            obtain ⟨A5', hA5⟩ : ∃ A, A = (if c5 = 1 then some ad else (some ad).map (·.add (1 * 3))) := ⟨_, rfl⟩
            rw [← hA5] at HPM
            have hcut2 : ∀ W, (Instr.slice 22 (.slice (some ad) n5 c5) (some (.int .i64 1)) none none).run Try.prog W = .ok (.slice A5' (n5 - 1) (c5 - 1)) W := fun W => by rw [hcut W, hA5]
            clear hcut hA5 hra hlt hcm HT1
            go_wp2
            clear hdx q0 q1 q2 z0 z1 z2 hcut2
            generalize wr.alloc (.cells #[.string cm.src, .string cm.dst, .slice X cm.arcs.length xc] 34) = W0 at HPM ⊢
            generalize wr.heap.size = b11 at HPM ⊢
            go_loopg [4, 5, 12] D.length (fun kq v4 v5 v12 w' => ∃ (i : Nat) (S : List Cl) (all : List Gr), v12 = .int .i64 (i : Int) ∧ Aside0 (kq + i = D.length) ∧ Aside0 (Hold S all) ∧ Aside0 (∀ g ∈ all, GTab g) ∧ Aside0 (all.length ≤ 2000) ∧ Aside0 (p + 1 ≤ all.length) ∧ Aside0 ((closedQ (l.map fC)).map fsts = (extG m (D.drop i) all).bind (runG D d' (p + 1))) ∧ Aside0 (Pk w w' v4 v5 (.slice A6 D.length c6) S ((all.drop (p + 1)).map callG) (D.map callG) cm X xc [b11]))
            case atStart => exact ⟨0, S, all, rfl, ⟨rfl⟩, HH, HGT, HAL, HLP, HC1, HPM⟩
            case round =>
              clear HH HGT HAL HLP HC1 HPM HPL S all
              obtain ⟨i, S, all, rfl, HKI, HH, HGT, HAL, HPL, HCQ, HP⟩ := hrel
              by_cases hlt2 : i < D.length
              · have hdx : decide ((i : Int) < (D.length : Int)) = true := decide_eq_true (by omega)
                have hi0 : (i : Int) < (D.length : Int) := by omega
                have hib : wrap64 ((i : Int) + 1) = (i : Int) + 1 := by have := HL0.out; unfold wrap64; omega
                have HLI := Aside0.mk hlt2
                obtain ⟨ad6, X6, xc6, e6, hxc6, hx6, hqa6⟩ := cl_get2 (Kd.Q_reads' HP.out.three.sing).2.2 i (by rw [List.length_map]; exact hlt2)
                have eC : (D.map callG)[i]'(by rw [List.length_map]; exact hlt2) = callG D[i] := List.getElem_map ..
                rw [eC] at hxc6 hx6 hqa6
                have HGH := Aside0.mk (HG0.out D[i] (List.getElem_mem hlt2))
                have HSK := Aside0.mk (fun (h : D[i].src ≠ m.dst) => ext_skip (all := all) hlt2 h)
                have HYS := Aside0.mk (fun (h : D[i].src = m.dst) => ext_yes (all := all) hlt2 h)
                clear eC
                generalize D[i] = h at hxc6 hx6 hqa6 HGH HSK HYS
                obtain ⟨ch, hch⟩ : ∃ x, x = callG h := ⟨_, rfl⟩
                rw [← hch] at hxc6 hx6 hqa6
                have HCH := Aside0.mk hch
                have HQA := Aside0.mk hqa6
                have HX6 := Aside0.mk hx6
                subst e6
                clear hch hqa6 hx6 hxc6 hlt2
                by_cases hs : h.src = m.dst
                · have hs2 : ch.src = cm.dst := by rw [HCH.out, HCM.out]; exact hs
                  have e2 : (ch.src.toList == cm.dst.toList) = true := by rw [hs2]; exact beq_self_eq_true _
                  have e1 : (ch.src == cm.dst) = true := (beq_toListBytes _ _).trans e2
                  have n1 : (ch.src != cm.dst) = false := by rw [bne, e1]; rfl
                  have HC2 := Aside0.mk (HCQ.out.trans (by rw [HYS.out hs]))
                  clear HSK HYS hs hs2 HCQ
                  go_wp2
                  clear hdx
                  refine start_ (n := 8) (S := fun w' => Below wr.heap.size wr w') (ds := []) #[false, false, false, false, false, false, false, false] (by kernel_rfl) rfl rfl (below_drew1 (Below.refl _ _)) (fun hHeld => ?_)
                  refine pure_ (i := 0) (N := some 66) (v := ?_) (a' := ?_) #[true, false, false, false, false, false, false, false] rfl rfl (by kernel_rfl) (fun _ _ _ h => h) (Or.inl ⟨by rfl, ?_⟩) ?_ ?_
                  rotate_left
                  · intro w'
                    go_simp
                    with_reducible rfl
                  rotate_left
                  · simp only [Act.put, List.setIfInBounds_toArray, List.set_cons_zero, List.set_cons_succ, i64_w, i32_w]
                    rfl
                  refine pure_ (i := 1) (N := some 67) (v := ?_) (a' := ?_) #[true, true, false, false, false, false, false, false] rfl rfl (by kernel_rfl) (fun _ _ _ h => h) (Or.inl ⟨by rfl, ?_⟩) ?_ ?_
                  rotate_left
                  · intro w'
                    go_simp
                    with_reducible rfl
                  rotate_left
                  · simp only [Act.put, List.setIfInBounds_toArray, List.set_cons_zero, List.set_cons_succ, i64_w, i32_w]
                    rfl
                  refine pure_ (i := 2) (N := some 68) (v := ?_) (a' := ?_) #[true, true, true, false, false, false, false, false] rfl rfl (by kernel_rfl) (fun _ _ _ h => h) (Or.inl ⟨by rfl, ?_⟩) ?_ ?_
                  rotate_left
                  · intro w'
                    go_simp
                    with_reducible rfl
                  rotate_left
                  · simp only [Act.put, List.setIfInBounds_toArray, List.set_cons_zero, List.set_cons_succ, i64_w, i32_w]
                    rfl
                  refine pure_ (i := 3) (N := some 69) (v := ?_) (a' := ?_) #[true, true, true, true, false, false, false, false] rfl rfl (by kernel_rfl) (fun _ _ _ h => h) (Or.inl ⟨by rfl, ?_⟩) ?_ ?_
                  rotate_left
                  · intro w'
                    go_simp
                    with_reducible rfl
                  rotate_left
                  · simp only [Act.put, List.setIfInBounds_toArray, List.set_cons_zero, List.set_cons_succ, i64_w, i32_w]
                    rfl
                  refine take_ (i := 4) (N := some 70) (v := ?_) (a' := ?_) #[true, true, true, true, true, false, false, false] rfl rfl (by kernel_rfl) (fun _ _ _ h => h) (Or.inl ⟨by rfl, ?_⟩) hHeld ?_ ?_
                  rotate_left
                  · rintro w' s0
                    obtain ⟨q0, q1, q2⟩ := HQA.out w' s0
                    go_simp
                    with_reducible rfl
                  rotate_left
                  · simp only [Act.put, List.setIfInBounds_toArray, List.set_cons_zero, List.set_cons_succ, i64_w, i32_w]
                    rfl
                  refine pure_ (i := 5) (N := some 71) (v := ?_) (a' := ?_) #[true, true, true, true, true, true, false, false] rfl rfl (by kernel_rfl) (fun _ _ _ h => h) (Or.inl ⟨by rfl, ?_⟩) ?_ ?_
                  rotate_left
                  · intro w'
                    go_simp
                    with_reducible rfl
                  rotate_left
                  · simp only [Act.put, List.setIfInBounds_toArray, List.set_cons_zero, List.set_cons_succ, i64_w, i32_w]
                    rfl
                  refine take_ (i := 6) (N := some 72) (v := ?_) (a' := ?_) #[true, true, true, true, true, true, true, false] rfl rfl (by kernel_rfl) (fun _ _ _ h => h) (Or.inl ⟨by rfl, ?_⟩) hHeld ?_ ?_
                  rotate_left
                  · rintro w' s0
                    obtain ⟨y0, y1, y2⟩ := Blk.cells ((HP.out.lits b11 (List.mem_cons_self ..)).1.go s0)
                    go_simp
                    with_reducible rfl
                  rotate_left
                  · simp only [Act.put, List.setIfInBounds_toArray, List.set_cons_zero, List.set_cons_succ, i64_w, i32_w]
                    rfl
                  refine pure_ (i := 7) (N := some 73) (v := ?_) (a' := ?_) #[true, true, true, true, true, true, true, true] rfl rfl (by kernel_rfl) (fun _ _ _ h => h) (Or.inl ⟨by rfl, ?_⟩) ?_ ?_
                  rotate_left
                  · intro w'
                    go_simp
                    with_reducible rfl
                  rotate_left
                  · simp only [Act.put, List.setIfInBounds_toArray, List.set_cons_zero, List.set_cons_succ, i64_w, i32_w]
                    rfl
                  refine done_ (by kernel_rfl) ?_
                  have HBD := Aside0.mk hHeld
                  have HP1 := Aside0.mk (HP.out.go hHeld)
                  clear hHeld HP
                  generalize wr.drew = W1 at HBD HP1 ⊢
                  go_wp2
                  clear e1 e2 n1
                  obtain ⟨q, hq⟩ : ∃ x, x = callG (thenG m h) := ⟨_, rfl⟩
                  have HQE := Aside0.mk hq
                  have HGG := Aside0.mk (show GTab (thenG m h) from thenG_tab HGM.out HGH.out)
                  have HCO := Aside0.mk (fun (W : World) (hW : Below W1.heap.size W1 W) => show Calls Try.prog 44 #[.agg #[.string cm.src, .string cm.dst, .slice X cm.arcs.length xc], .agg #[.string ch.src, .string ch.dst, .slice X6 ch.arcs.length xc6]] W fun e w' => ∃ A9 c9, e = .returned (.agg #[.string q.src, .string q.dst, .slice A9 q.arcs.length c9]) ∧ kAc.R 24 w' w.heap.size (fun _ => True) (.slice A9 q.arcs.length c9) q.arcs ∧ Below W.heap.size W w' from by
                    refine (compose_calls X X6 xc xc6 cm ch W (Kd.C_below (Kd.R_reads' HP1.out.arcs).2.2 hW) (Kd.C_below HX6.out (below_step HBD.out hW)) (by rw [HCM.out]; exact arcsN_ok _ 36 (Nat.le_refl _)) (by rw [HCH.out]; exact arcsN_ok _ 36 (Nat.le_refl _))).mono ?_
                    rintro e w' ⟨v, rfl, ⟨u, rfl, hr⟩, hb'⟩
                    have e1 : callG ⟨cm.src, ch.dst, comp (tabC cm.arcs) (tabC ch.arcs)⟩ = q := by rw [HCM.out, HCH.out, HQE.out]; exact comp_callG HGM.out HGH.out
                    rw [e1] at hr ⊢
                    obtain ⟨A9, c9, ev9⟩ := Kd.R_slice hr
                    subst ev9
                    exact ⟨A9, c9, rfl, Kd.R_lower hr (below_step HP1.out.three.below hW).size, hb'⟩)
                  clear hq
                  refine start_ (n := 8) (S := fun w' => Below W1.heap.size W1 w') (ds := [7]) #[false, false, false, false, false, false, false, false] (by kernel_rfl) rfl rfl (below_drew1 (Below.refl _ _)) (fun hHeld => ?_)
                  refine take_ (i := 0) (N := some 74) (v := ?_) (a' := ?_) #[true, false, false, false, false, false, false, false] rfl rfl (by kernel_rfl) (fun _ _ _ h => h) (Or.inl ⟨by rfl, ?_⟩) hHeld ?_ ?_
                  rotate_left
                  · rintro w' s0
                    obtain ⟨y0, y1, y2⟩ := Blk.cells ((HP1.out.lits b11 (List.mem_cons_self ..)).1.go s0)
                    go_simp
                    with_reducible rfl
                  rotate_left
                  · simp only [Act.put, List.setIfInBounds_toArray, List.set_cons_zero, List.set_cons_succ, i64_w, i32_w]
                    rfl
                  refine pure_ (i := 1) (N := some 75) (v := ?_) (a' := ?_) #[true, true, false, false, false, false, false, false] rfl rfl (by kernel_rfl) (fun _ _ _ h => h) (Or.inl ⟨by rfl, ?_⟩) ?_ ?_
                  rotate_left
                  · intro w'
                    go_simp
                    with_reducible rfl
                  rotate_left
                  · simp only [Act.put, List.setIfInBounds_toArray, List.set_cons_zero, List.set_cons_succ, i64_w, i32_w]
                    rfl
                  refine pure_ (i := 2) (N := some 76) (v := ?_) (a' := ?_) #[true, true, true, false, false, false, false, false] rfl rfl (by kernel_rfl) (fun _ _ _ h => h) (Or.inl ⟨by rfl, ?_⟩) ?_ ?_
                  rotate_left
                  · intro w'
                    go_simp
                    with_reducible rfl
                  rotate_left
                  · simp only [Act.put, List.setIfInBounds_toArray, List.set_cons_zero, List.set_cons_succ, i64_w, i32_w]
                    rfl
                  refine pure_ (i := 3) (N := some 77) (v := ?_) (a' := ?_) #[true, true, true, true, false, false, false, false] rfl rfl (by kernel_rfl) (fun _ _ _ h => h) (Or.inl ⟨by rfl, ?_⟩) ?_ ?_
                  rotate_left
                  · intro w'
                    go_simp
                    with_reducible rfl
                  rotate_left
                  · simp only [Act.put, List.setIfInBounds_toArray, List.set_cons_zero, List.set_cons_succ, i64_w, i32_w]
                    rfl
                  refine take_ (i := 4) (N := some 78) (v := ?_) (a' := ?_) #[true, true, true, true, true, false, false, false] rfl rfl (by kernel_rfl) (fun _ _ _ h => h) (Or.inl ⟨by rfl, ?_⟩) hHeld ?_ ?_
                  rotate_left
                  · rintro w' s0
                    obtain ⟨q0, q1, q2⟩ := HQA.out w' (below_step HBD.out s0)
                    go_simp
                    with_reducible rfl
                  rotate_left
                  · simp only [Act.put, List.setIfInBounds_toArray, List.set_cons_zero, List.set_cons_succ, i64_w, i32_w]
                    rfl
                  refine join_ (σ := Nat × Option Addr × Nat) 1 #[true, true, true, true, true, true, true, false] (fun r => [(79, .agg #[.string q.src, .string q.dst, .slice r.2.1 q.arcs.length r.2.2]), (13, .pointer (some ⟨r.1, 0, none⟩))]) (fun r w' => Below W1.heap.size W1 w' ∧ w'.heap[r.1]? = some (.cells #[.string ⟨#[]⟩, .string ⟨#[]⟩, .slice none 0 0] 34 (0, 0)) ∧ kAc.R 24 w' w.heap.size (fun _ => True) (.slice r.2.1 q.arcs.length r.2.2) q.arcs ∧ W1.heap.size ≤ r.1) ?cont ?paths
                  case paths =>
                    intro HK
                    have HJ := Aside0.mk HK
                    clear HK
                    refine two_ (i := 5) (j := 6) (Ni := some 79) (Nj := some 13) #[true, true, true, true, true, true, false, false] #[true, true, true, true, true, false, true, false] rfl rfl rfl rfl (by kernel_rfl) (by decide) (by decide) (fun K hK => ?_) (fun K hK => ?_)
                    · refine goes_ Try.func44 (by kernel_rfl) rfl #[.agg #[.string cm.src, .string cm.dst, .slice X cm.arcs.length xc], .agg #[.string ch.src, .string ch.dst, .slice X6 ch.arcs.length xc6]] (by rfl) rfl rfl (by (try simp only [List.map_toArray, List.map_cons, List.map_nil]); first | done | rfl) ?_
                      refine (HCO.out _ hHeld).mono ?_
                      rintro e2 w3 ⟨A9, c9, rfl, hr9, hb9⟩
                      refine ⟨_, rfl, ?_⟩
                      have hB := below_step hHeld hb9
                      refine hK.out _ _ hB (fun _ => ?_)
                      clear hK
                      refine one_ (i := 6) (N := some 13) #[true, true, true, true, true, true, true, false] rfl rfl (by kernel_rfl) (by decide) (fun K hK => ?_)
                      refine value_ (by rfl) rfl (w1 := World.alloc w3 (.cells #[.string ⟨#[]⟩, .string ⟨#[]⟩, .slice none 0 0] 34)) (v := .pointer (some ⟨w3.heap.size, 0, none⟩)) (by go_simp) ?_
                      have hB2 := below_step hB (below_alloc (Below.refl _ _) (.cells #[.string ⟨#[]⟩, .string ⟨#[]⟩, .slice none 0 0] 34))
                      refine hK.out _ _ hB2 (fun _ => ?_)
                      clear hK
                      refine norm_ ?_ (HJ.out (w3.heap.size, A9, c9) _ ⟨hB2, blk_new w3 _, Kd.R_below hr9 (below_alloc (Below.refl _ _) _), hB.size⟩)
                      simp only [putAll, Act.put, List.setIfInBounds_toArray, List.set_cons_zero, List.set_cons_succ]
                    · refine value_ (by rfl) rfl (w1 := World.alloc W1.drew (.cells #[.string ⟨#[]⟩, .string ⟨#[]⟩, .slice none 0 0] 34)) (v := .pointer (some ⟨W1.drew.heap.size, 0, none⟩)) (by go_simp) ?_
                      have hB2 := below_step hHeld (below_alloc (Below.refl _ _) (.cells #[.string ⟨#[]⟩, .string ⟨#[]⟩, .slice none 0 0] 34))
                      have hz := blk_new W1.drew (.cells #[.string ⟨#[]⟩, .string ⟨#[]⟩, .slice none 0 0] 34)
                      refine hK.out _ _ hB2 (fun _ => ?_)
                      clear hK
                      refine one_ (i := 5) (N := some 79) #[true, true, true, true, true, true, true, false] rfl rfl (by kernel_rfl) (by decide) (fun K hK => ?_)
                      refine goes_ Try.func44 (by kernel_rfl) rfl #[.agg #[.string cm.src, .string cm.dst, .slice X cm.arcs.length xc], .agg #[.string ch.src, .string ch.dst, .slice X6 ch.arcs.length xc6]] (by rfl) rfl rfl (by (try simp only [List.map_toArray, List.map_cons, List.map_nil]); first | done | rfl) ?_
                      refine (HCO.out _ hB2).mono ?_
                      rintro e2 w3 ⟨A9, c9, rfl, hr9, hb9⟩
                      refine ⟨_, rfl, ?_⟩
                      have hB3 := below_step hB2 hb9
                      refine hK.out _ _ hB3 (fun _ => ?_)
                      clear hK
                      refine norm_ ?_ (HJ.out (W1.drew.heap.size, A9, c9) _ ⟨hB3, blk_below hz hb9, hr9, Nat.le_refl _⟩)
                      simp only [putAll, Act.put, List.setIfInBounds_toArray, List.set_cons_zero, List.set_cons_succ]
                  case cont =>
                    rintro ⟨b13, A9, c9⟩ w5 ⟨hb, hz, hr, hge⟩
                    dsimp only at hz hr hge
                    clear hHeld
                    refine norm_ (a' := ?_) ?_ ?_
                    rotate_left
                    · simp only [putAll, Act.put, List.setIfInBounds_toArray, List.set_cons_zero, List.set_cons_succ]
                      rfl
                    refine last_ (i := 7) (N := none) #[true, true, true, true, true, true, true, true] rfl rfl (by kernel_rfl) (by decide) (fun K hK => ?_)
                    refine skip_ (by rfl) rfl (store_run (ty := 34) (x := .tmp 13) (v := .tmp 79) rfl rfl b13 34 #[.string ⟨#[]⟩, .string ⟨#[]⟩, .slice none 0 0] #[.string q.src, .string q.dst, .slice A9 q.arcs.length c9] (by rfl) (by rfl) hz (by kernel_rfl) rfl (by simp [Value.oneCell'])) ?_
                    have hb5 := row_step2 (cs := #[.string q.src, .string q.dst, .slice A9 q.arcs.length c9]) hb hge
                    have HP5 := Aside0.mk (Pk.fresh HP1.out.three hb5 (R_row hr hz (by decide) _) (setRow_at w5 b13 #[.string q.src, .string q.dst, .slice A9 q.arcs.length c9] _ 34 hz) hge)
                    have HM5 := Aside0.mk (HP1.out.go hb5)
                    refine hK.out _ _ ?_
                    clear hK K hb hz hr hge hb5
                    generalize w5.setRow b13 #[.string q.src, .string q.dst, .slice A9 q.arcs.length c9] = W6 at HP5 HM5 ⊢
                    refine done_ (by kernel_rfl) ?_
                    clear HCO HQA HX6 HBD HP1
                    by_cases hin : thenG m h ∈ all
                    · have HPC := Aside0.mk (Pk.put_calls HP5.out HM5.out HH.out HGT.out HGG.out HQE.out (by have := HAL.out; omega) (if_pos hin) (pb := false) ⟨fun h => Bool.noConfusion h, fun h => absurd hin h⟩)
                      have HC3 := Aside0.mk (show (closedQ (l.map fC)).map fsts = (extG m (D.drop (i + 1)) all).bind (runG D d' (p + 1)) from HC2.out.trans (by simp only [add_in hin, Option.bind_some]))
                      have d4 : ¬ 2000 < all.length := by have := HAL.out; omega
                      have d3 : decide ((2000 : Int) < (all.length : Int)) = false := decide_eq_false (by have := HAL.out; omega)
                      obtain ⟨y0, y1, y2⟩ := Blk.cells (HP5.out.lits b13 (List.mem_cons_self ..)).1
                      clear HC2 hin
                      go_wp2_with (go_at_call 56; refine HPC.out.mono ?_; rintro e w7 ⟨A7, c7, S7, rfl, hh7, hp7, hm7⟩; have HH7 := Aside0.mk hh7; have HM7 := Aside0.mk hm7; clear hh7 hp7 hm7 y0 y1 y2)
                      go_roundg (D.length - i - 1)
                      case measure => have := HKI.out; omega
                      case rel => exact ⟨i + 1, S7, all, by go_num, ⟨by have := HKI.out; have := HLI.out; omega⟩, HH7, HGT, HAL, HPL, HC3, HM7⟩
                    · obtain ⟨all2, h2⟩ : ∃ x, x = all ++ [thenG m h] := ⟨_, rfl⟩
                      have HPC := Aside0.mk (Pk.put_calls HP5.out HM5.out HH.out HGT.out HGG.out HQE.out (by have := HAL.out; omega) ((if_neg hin).trans h2.symm) (pb := true) ⟨fun _ => hin, fun _ => rfl⟩)
                      have HL2 := Aside0.mk (show all2.length = all.length + 1 by rw [h2, List.length_append]; rfl)
                      have HTL := Aside0.mk (show ((all.drop (p + 1)).map callG).length ≤ 10000 by rw [List.length_map, List.length_drop]; have := HAL.out; omega)
                      obtain ⟨y0, y1, y2⟩ := Blk.cells (HP5.out.lits b13 (List.mem_cons_self ..)).1
                      by_cases hfull : 2000 < all.length + 1
                      · have d4 : 2000 < all2.length := by have := HL2.out; omega
                        have d3 : decide ((2000 : Int) < (all2.length : Int)) = true := decide_eq_true (by have := HL2.out; omega)
                        have HC3 := Aside0.mk (show (closedQ (l.map fC)).map fsts = none from HC2.out.trans (by simp only [add_full hin hfull, Option.bind_none]))
                        clear HC2 hin hfull h2
                        go_wp2_with (first | (go_at_call 56; refine HPC.out.mono ?_; rintro e w7 ⟨A7, c7, S7, rfl, hh7, hp7, hm7⟩; have HH7 := Aside0.mk hh7; have HM7 := Aside0.mk hm7; have HP7 := Aside0.mk hp7; clear y0 y1 y2; obtain ⟨y0, y1, y2⟩ := Blk.cells (hp7.lits b13 (List.mem_cons_self ..)).1; clear hh7 hp7 hm7) | (at_builtin; go_loud (refine Pk.append_todo HP7.out HM7.out HTL.out rfl (.tmp 88) (.tmp 90) rfl rfl (by rfl) (by rfl) ?_; intro v1 w1 hm1; have HM8 := Aside0.mk hm1; clear hm1)))
                        go_ret2
                        exact RC.full H60.out HVA.out HC3.out HM8.out.three.below
                      · have d4 : ¬ 2000 < all2.length := by have := HL2.out; omega
                        have d3 : decide ((2000 : Int) < (all2.length : Int)) = false := decide_eq_false (by have := HL2.out; omega)
                        have HC3 := Aside0.mk (show (closedQ (l.map fC)).map fsts = (extG m (D.drop (i + 1)) all2).bind (runG D d' (p + 1)) from HC2.out.trans (by simp only [add_new hin hfull, ← h2, Option.bind_some]))
                        have HG2 := Aside0.mk (show ∀ g ∈ all2, GTab g from fun g hg => by
                          rw [h2, List.mem_append, List.mem_singleton] at hg
                          rcases hg with hg | rfl
                          · exact HGT.out g hg
                          · exact HGG.out)
                        have HDR := Aside0.mk (show (all2.drop (p + 1)).map callG = (all.drop (p + 1)).map callG ++ [q] by rw [h2, List.drop_append_of_le_length HPL.out, List.map_append, HQE.out]; rfl)
                        have HF2 := Aside0.mk (show all2.length ≤ 2000 by have := HL2.out; omega)
                        clear HC2 hin hfull h2
                        go_wp2_with (first | (go_at_call 56; refine HPC.out.mono ?_; rintro e w7 ⟨A7, c7, S7, rfl, hh7, hp7, hm7⟩; have HH7 := Aside0.mk hh7; have HM7 := Aside0.mk hm7; have HP7 := Aside0.mk hp7; clear y0 y1 y2; obtain ⟨y0, y1, y2⟩ := Blk.cells (hp7.lits b13 (List.mem_cons_self ..)).1; clear hh7 hp7 hm7) | (at_builtin; go_loud (refine Pk.append_todo HP7.out HM7.out HTL.out rfl (.tmp 88) (.tmp 90) rfl rfl (by rfl) (by rfl) ?_; intro v1 w1 hm1; have HM8 := Aside0.mk hm1; clear hm1)))
                        go_roundg (D.length - i - 1)
                        case measure => have := HKI.out; omega
                        case rel => exact ⟨i + 1, S7, all2, by go_num, ⟨by have := HKI.out; have := HLI.out; omega⟩, HH7, HG2, HF2, ⟨by have := HPL.out; have := HL2.out; omega⟩, HC3, ⟨by rw [HDR.out]; exact HM8.out⟩⟩
                · have hs2 : ¬ ch.src = cm.dst := by rw [HCH.out, HCM.out]; exact hs
                  have e2 : (ch.src.toList == cm.dst.toList) = false := beq_eq_false_iff_ne.mpr (fun e => hs2 (bytes_inj e))
                  have e1 : (ch.src == cm.dst) = false := (beq_toListBytes _ _).trans e2
                  have n1 : (ch.src != cm.dst) = true := by rw [bne, e1]; rfl
                  have HC2 := Aside0.mk (HCQ.out.trans (by rw [HSK.out hs]))
                  clear HSK HYS hs hs2 HCQ
                  go_wp2
                  clear hdx
                  refine start_ (n := 8) (S := fun w' => Below wr.heap.size wr w') (ds := []) #[false, false, false, false, false, false, false, false] (by kernel_rfl) rfl rfl (below_drew1 (Below.refl _ _)) (fun hHeld => ?_)
                  refine pure_ (i := 0) (N := some 66) (v := ?_) (a' := ?_) #[true, false, false, false, false, false, false, false] rfl rfl (by kernel_rfl) (fun _ _ _ h => h) (Or.inl ⟨by rfl, ?_⟩) ?_ ?_
                  rotate_left
                  · intro w'
                    go_simp
                    with_reducible rfl
                  rotate_left
                  · simp only [Act.put, List.setIfInBounds_toArray, List.set_cons_zero, List.set_cons_succ, i64_w, i32_w]
                    rfl
                  refine pure_ (i := 1) (N := some 67) (v := ?_) (a' := ?_) #[true, true, false, false, false, false, false, false] rfl rfl (by kernel_rfl) (fun _ _ _ h => h) (Or.inl ⟨by rfl, ?_⟩) ?_ ?_
                  rotate_left
                  · intro w'
                    go_simp
                    with_reducible rfl
                  rotate_left
                  · simp only [Act.put, List.setIfInBounds_toArray, List.set_cons_zero, List.set_cons_succ, i64_w, i32_w]
                    rfl
                  refine pure_ (i := 2) (N := some 68) (v := ?_) (a' := ?_) #[true, true, true, false, false, false, false, false] rfl rfl (by kernel_rfl) (fun _ _ _ h => h) (Or.inl ⟨by rfl, ?_⟩) ?_ ?_
                  rotate_left
                  · intro w'
                    go_simp
                    with_reducible rfl
                  rotate_left
                  · simp only [Act.put, List.setIfInBounds_toArray, List.set_cons_zero, List.set_cons_succ, i64_w, i32_w]
                    rfl
                  refine pure_ (i := 3) (N := some 69) (v := ?_) (a' := ?_) #[true, true, true, true, false, false, false, false] rfl rfl (by kernel_rfl) (fun _ _ _ h => h) (Or.inl ⟨by rfl, ?_⟩) ?_ ?_
                  rotate_left
                  · intro w'
                    go_simp
                    with_reducible rfl
                  rotate_left
                  · simp only [Act.put, List.setIfInBounds_toArray, List.set_cons_zero, List.set_cons_succ, i64_w, i32_w]
                    rfl
                  refine take_ (i := 4) (N := some 70) (v := ?_) (a' := ?_) #[true, true, true, true, true, false, false, false] rfl rfl (by kernel_rfl) (fun _ _ _ h => h) (Or.inl ⟨by rfl, ?_⟩) hHeld ?_ ?_
                  rotate_left
                  · rintro w' s0
                    obtain ⟨q0, q1, q2⟩ := HQA.out w' s0
                    go_simp
                    with_reducible rfl
                  rotate_left
                  · simp only [Act.put, List.setIfInBounds_toArray, List.set_cons_zero, List.set_cons_succ, i64_w, i32_w]
                    rfl
                  refine pure_ (i := 5) (N := some 71) (v := ?_) (a' := ?_) #[true, true, true, true, true, true, false, false] rfl rfl (by kernel_rfl) (fun _ _ _ h => h) (Or.inl ⟨by rfl, ?_⟩) ?_ ?_
                  rotate_left
                  · intro w'
                    go_simp
                    with_reducible rfl
                  rotate_left
                  · simp only [Act.put, List.setIfInBounds_toArray, List.set_cons_zero, List.set_cons_succ, i64_w, i32_w]
                    rfl
                  refine take_ (i := 6) (N := some 72) (v := ?_) (a' := ?_) #[true, true, true, true, true, true, true, false] rfl rfl (by kernel_rfl) (fun _ _ _ h => h) (Or.inl ⟨by rfl, ?_⟩) hHeld ?_ ?_
                  rotate_left
                  · rintro w' s0
                    obtain ⟨y0, y1, y2⟩ := Blk.cells ((HP.out.lits b11 (List.mem_cons_self ..)).1.go s0)
                    go_simp
                    with_reducible rfl
                  rotate_left
                  · simp only [Act.put, List.setIfInBounds_toArray, List.set_cons_zero, List.set_cons_succ, i64_w, i32_w]
                    rfl
                  refine pure_ (i := 7) (N := some 73) (v := ?_) (a' := ?_) #[true, true, true, true, true, true, true, true] rfl rfl (by kernel_rfl) (fun _ _ _ h => h) (Or.inl ⟨by rfl, ?_⟩) ?_ ?_
                  rotate_left
                  · intro w'
                    go_simp
                    with_reducible rfl
                  rotate_left
                  · simp only [Act.put, List.setIfInBounds_toArray, List.set_cons_zero, List.set_cons_succ, i64_w, i32_w]
                    rfl
                  refine done_ (by kernel_rfl) ?_
                  have HP1 := Aside0.mk (HP.out.go hHeld)
                  clear hHeld HP
                  go_wp2
                  go_roundg (D.length - i - 1)
                  case measure => have := HKI.out; omega
                  case rel => exact ⟨i + 1, S, all, by go_num, ⟨by have := HKI.out; have := HLI.out; omega⟩, HH, HGT, HAL, HPL, HC2, HP1⟩
              · have hdx : decide ((i : Int) < (D.length : Int)) = false := decide_eq_false (by omega)
                have HC2 := Aside0.mk (HCQ.out.trans (by rw [ext_end hlt2, Option.bind_some]))
                clear HCQ
                go_wp2
                go_roundg d'
                case measure => have := HKD.out; omega
                case rel => exact ⟨d', p + 1, S, all, ⟨rfl⟩, ⟨by have := HK.out; omega⟩, HH, HGT, HAL, HPL, HC2, ⟨HP.out.three⟩⟩
          · obtain ⟨n5, hn5⟩ : ∃ n, n = all.length - p := ⟨_, rfl⟩
            rw [← hn5] at HT ⊢
            have hdx : decide ((0 : Int) < (n5 : Int)) = false := decide_eq_false (by omega)
            have q2 : ¬ 0 < n5 := by omega
            have HE := Aside0.mk (HCQ.out.trans (run_end hlt))
            obtain ⟨A4, c4, ev4⟩ := Kd.N_slice HT.out.all
            subst ev4
            clear hlt hn5
            go_wp2
            go_ret2
            exact RC.good H60.out HVA.out HE.out HH.out HAL.out HT.out.all HT.out.below

theorem small70 {l : List Cl} (h : bigL l 70 = false) : l.length ≤ 70 ∧ ∀ c ∈ l, c.src.size ≤ maxLen ∧ c.dst.size ≤ maxLen ∧ c.arcs.length ≤ 1000000 := by
  simp only [bigL, Bool.or_eq_false_iff, decide_eq_false_iff_not, List.any_eq_false] at h
  refine ⟨by have := h.1; omega, fun c hc => ?_⟩
  have h2 := h.2 c hc
  simp only [bigC, Bool.or_eq_true, decide_eq_true_eq, not_or] at h2
  simp only [maxLen]
  refine ⟨by omega, by omega, by omega⟩
theorem closedF_some {l : List Cl} {a : List Mk} (hx : closedF l 4 2 = (some a, 0)) : ∃ first, readL l = some first ∧ closedQ first = some a := by
  unfold closedF at hx
  split at hx
  · cases hx
  · split at hx
    · cases hx
    · rename_i first hr
      cases hq : closedQ first with
      | none => rw [hq] at hx; cases hx
      | some b =>
        rw [hq] at hx
        simp only [Prod.mk.injEq, Option.some.injEq, and_true] at hx
        exact ⟨first, hr, by rw [hq, hx]⟩
theorem closed_tabs {l : List Cl} {a : List Mk} (hx : closedF l 4 2 = (some a, 0)) : ∀ m ∈ a, GTab m.1 := by
  obtain ⟨first, hr, hq⟩ := closedF_some hx
  exact fun m hm => path_tab (readL_tab hr) ((closedQ_some hq).1.path m hm)
/-- The way that Loop tells is one that loops. -/
theorem way_loops {l : List Cl} {a : List Mk} (hx : closedF l 4 2 = (some a, 0)) {m : Mk} (hm : m ∈ a) (hb : badB m.1 = true) {A P : Option Addr} {cp cpp : Nat} {W : World} (hl : kCl.C W A l.length l) (hll : l.length ≤ 1000000) (hp : (Kd.int .i64).C W P m.2.length m.2) :
    Calls Try.prog 16 #[.slice A l.length cp, .slice P m.2.length cpp] W fun e w' => e = .returned (.bool true) ∧ Below W.heap.size W w' := by
  obtain ⟨first, hr, hq⟩ := closedF_some hx
  have hpath := (closedQ_some hq).1.path m hm
  obtain ⟨G, hG, hs, hg⟩ := path_steps hr hpath
  have h1 := path_pos hpath
  refine (rloops_calls A P cp cpp l m.2 G W hl hll hp h1 (closedF_ways hx m hm) hs hg).mono ?_
  rintro e w' ⟨rfl, hb'⟩
  refine ⟨?_, hb'⟩
  rw [hG, rbad_eq (closed_tabs hx m hm), hb]
/-- The reference's answer, where there is a closure. -/
theorem rterm_good {A : Option Addr} {cp : Nat} {l : List Cl} {w : World} {a : List Mk} (hl : kCl.C w A l.length l) (hlen : l.length ≤ 1000000) (hx : closedF l 4 2 = (some a, 0)) :
    Calls Try.prog 14 #[.slice A l.length cp] w fun e w' => e = .returned (.tuple #[.bool (!a.any fun m => badB m.1), .int .i64 0]) ∧ Below w.heap.size w w' := by
  refine (rterm_some (a := a) ((rclosure_calls A cp l w hl hlen).mono ?_)).mono ?_
  · rintro e w' (⟨b, h1, h2⟩ | ⟨x, h1, _⟩)
    · rw [hx] at h1
      simp only [Prod.mk.injEq, Option.some.injEq, and_true] at h1
      rw [h1]
      exact h2
    · rw [hx] at h1
      cases h1
  · rintro e w' ⟨S, hm, rfl, hb⟩
    exact ⟨by rw [any_same hm (closed_tabs hx)], hb⟩
theorem rterm_bad {A : Option Addr} {cp : Nat} {l : List Cl} {w : World} {x : Int} (hl : kCl.C w A l.length l) (hlen : l.length ≤ 1000000) (hx : closedF l 4 2 = (none, x)) (hne : x ≠ 0) :
    Calls Try.prog 14 #[.slice A l.length cp] w fun e w' => e = .returned (.tuple #[.bool false, .int .i64 x]) ∧ Below w.heap.size w w' := by
  refine rterm_none hne ((rclosure_calls A cp l w hl hlen).mono ?_)
  rintro e w' (⟨b, h1, h2⟩ | ⟨y, h1, h2, h3, h4⟩)
  · rw [hx] at h1
    cases h1
  · rw [hx] at h1
    simp only [Prod.mk.injEq, true_and] at h1
    rw [h1]
    exact ⟨h3, h4⟩
set_option maxHeartbeats 4000000 in
set_option maxRecDepth 100000 in
/-- No closure. -/
theorem terminates_err (A : Option Addr) (cp : Nat) (l : List Cl) (w : World) (h : kCl.C w A l.length l) (hbig : bigL l 70 = false) (hgo : ¬ (12 < l.length ∧ l.length ≤ 60)) {x : Int} (hne : x ≠ 0) (hx : closedF l 4 2 = (none, x)) :
    Calls Try.prog 4 #[.slice A l.length cp] w fun e w' => e = .returned (.bool true) ∧ Below w.heap.size w w' := by
  have hsm := small70 hbig
  have HBG := Aside0.mk (big_calls A cp l 70 w h (by omega))
  rw [hbig] at HBG
  have HT := Aside0.mk (fun (W : World) (hb : Below w.heap.size w W) => term_calls (cp := cp) (Kd.C_below h hb) hsm.2 (by omega))
  rw [show termF l 4 2 = (false, x) by unfold termF; rw [hx]] at HT
  have HR := Aside0.mk (fun (W : World) (hb : Below w.heap.size w W) => rterm_bad (cp := cp) (Kd.C_below h hb) (by omega) hx hne)
  have HO := Aside0.mk (fun (W : World) (hb : Below w.heap.size w W) => loop_none (cp := cp) (Kd.C_below h hb) hsm.2 (by omega) hx hne)
  have e0 : (x != x) = false := by simp
  have e1 : (x != 0) = true := by simpa using hne
  have e2 : (x == x) = true := by simp
  by_cases h12 : 12 < l.length
  · have d1 : decide ((12 : Int) < (l.length : Int)) = true := decide_eq_true (by omega)
    have d3 : ¬ l.length ≤ 60 := fun h60 => hgo ⟨h12, h60⟩
    have d2 : decide ((l.length : Int) ≤ 60) = false := decide_eq_false (by omega)
    clear hsm hbig hgo hx hne h
    go_enter Try.func4, Try.ntmps4
    go_wp2_with (first | (go_at_call 11; refine HBG.out.mono ?_; rintro e w1 ⟨rfl, hb1⟩; have HB1 := Aside0.mk hb1; clear hb1) | (go_at_call 13; refine (HT.out _ HB1.out).mono ?_; rintro e w2 ⟨rfl, hb2⟩; have HB2 := Aside0.mk (below_step HB1.out hb2); clear hb2) | (go_at_call 14; refine (HR.out _ HB2.out).mono ?_; rintro e w3 ⟨rfl, hb3⟩; have HB3 := Aside0.mk (below_step HB2.out hb3); clear hb3) | (go_at_call 15; refine (HO.out _ HB3.out).mono ?_; rintro e w4 ⟨rfl, hb4⟩; have HB4 := Aside0.mk (below_step HB3.out hb4); clear hb4) | (go_at_call 12; refine (awake_calls _).mono ?_; rintro e w5 ⟨rfl, hb5⟩; have HB5 := Aside0.mk (below_step HB4.out hb5); clear hb5))
    go_ret
    exact ⟨rfl, HB5.out⟩
  · have d1 : decide ((12 : Int) < (l.length : Int)) = false := decide_eq_false (by omega)
    clear hsm hbig hgo hx hne h
    go_enter Try.func4, Try.ntmps4
    go_wp2_with (first | (go_at_call 11; refine HBG.out.mono ?_; rintro e w1 ⟨rfl, hb1⟩; have HB1 := Aside0.mk hb1; clear hb1) | (go_at_call 13; refine (HT.out _ HB1.out).mono ?_; rintro e w2 ⟨rfl, hb2⟩; have HB2 := Aside0.mk (below_step HB1.out hb2); clear hb2) | (go_at_call 14; refine (HR.out _ HB2.out).mono ?_; rintro e w3 ⟨rfl, hb3⟩; have HB3 := Aside0.mk (below_step HB2.out hb3); clear hb3) | (go_at_call 15; refine (HO.out _ HB3.out).mono ?_; rintro e w4 ⟨rfl, hb4⟩; have HB4 := Aside0.mk (below_step HB3.out hb4); clear hb4) | (go_at_call 12; refine (awake_calls _).mono ?_; rintro e w5 ⟨rfl, hb5⟩; have HB5 := Aside0.mk (below_step HB4.out hb5); clear hb5))
    go_ret
    exact ⟨rfl, HB5.out⟩
set_option maxHeartbeats 4000000 in
set_option maxRecDepth 100000 in
theorem terminates_law (A : Option Addr) (cp : Nat) (l : List Cl) (w : World) (h : kCl.C w A l.length l) (hl : l.length ≤ 9223372036854775807) :
    Calls Try.prog 4 #[.slice A l.length cp] w fun e w' => e = .returned (.bool true) ∧ Below w.heap.size w w' := by
  have HBG := Aside0.mk (big_calls A cp l 70 w h hl)
  cases hbig : bigL l 70 with
  | true =>
    rw [hbig] at HBG
    clear hbig h hl
    go_enter Try.func4, Try.ntmps4
    go_wp2_with (first | (go_at_call 11; refine HBG.out.mono ?_; rintro e w1 ⟨rfl, hb1⟩; have HB1 := Aside0.mk hb1; clear hb1) | (go_at_call 12; refine (awake_calls _).mono ?_; rintro e w5 ⟨rfl, hb5⟩; have HB5 := Aside0.mk (below_step HB1.out hb5); clear hb5))
    go_ret
    exact ⟨rfl, HB5.out⟩
  | false =>
  rw [hbig] at HBG
  by_cases hgo : 12 < l.length ∧ l.length ≤ 60
  · have h12 := hgo.1
    have h60 := hgo.2
    have d1 : decide ((12 : Int) < (l.length : Int)) = true := decide_eq_true (by omega)
    have d2 : decide ((l.length : Int) ≤ 60) = true := decide_eq_true (by omega)
    clear hgo hbig h hl
    go_enter Try.func4, Try.ntmps4
    go_wp2_with (first | (go_at_call 11; refine HBG.out.mono ?_; rintro e w1 ⟨rfl, hb1⟩; have HB1 := Aside0.mk hb1; clear hb1) | (go_at_call 12; refine (awake_calls _).mono ?_; rintro e w5 ⟨rfl, hb5⟩; have HB5 := Aside0.mk (below_step HB1.out hb5); clear hb5))
    go_ret
    exact ⟨rfl, HB5.out⟩
  · rcases closedF_cases l with ⟨a, hx, hal⟩ | hx | hx
    · have hsm := small70 hbig
      have h12 : ¬ 12 < l.length := fun h12 => by
        have h60 : 60 < l.length := by omega
        unfold closedF at hx
        rw [if_pos h60] at hx
        cases hx
      have d1 : decide ((12 : Int) < (l.length : Int)) = false := decide_eq_false (by omega)
      have HT := Aside0.mk (fun (W : World) (hb : Below w.heap.size w W) => term_calls (cp := cp) (Kd.C_below h hb) hsm.2 hl)
      rw [show termF l 4 2 = (!a.any (fun m => badB m.1), 0) by unfold termF; rw [hx]] at HT
      have HR := Aside0.mk (fun (W : World) (hb : Below w.heap.size w W) => rterm_good (cp := cp) (Kd.C_below h hb) (by omega) hx)
      have HO := Aside0.mk (fun (W : World) (hb : Below w.heap.size w W) => loop_some (cp := cp) (Kd.C_below h hb) hsm.2 hl hx (by omega))
      have HX := Aside0.mk hx
      have HH := Aside0.mk h
      have HL := Aside0.mk (show l.length ≤ 1000000 by omega)
      clear hsm hbig hgo hx hal h hl
      generalize (a.any fun m => badB m.1) = ab at HT HR HO
      cases ab with
      | false =>
        go_enter Try.func4, Try.ntmps4
        go_wp2_with (first | (go_at_call 11; refine HBG.out.mono ?_; rintro e w1 ⟨rfl, hb1⟩; have HB1 := Aside0.mk hb1; clear hb1) | (go_at_call 13; refine (HT.out _ HB1.out).mono ?_; rintro e w2 ⟨rfl, hb2⟩; have HB2 := Aside0.mk (below_step HB1.out hb2); clear hb2) | (go_at_call 14; refine (HR.out _ HB2.out).mono ?_; rintro e w3 ⟨rfl, hb3⟩; have HB3 := Aside0.mk (below_step HB2.out hb3); clear hb3) | (go_at_call 15; refine (HO.out _ HB3.out).mono ?_; rintro e w4 ⟨v4, m, rfl, ⟨A4, c4, rfl, hc4⟩, h1, h2, hb4⟩; have HB4 := Aside0.mk (below_step HB3.out hb4); rw [show m.2.length = 0 by rw [h2 (by first | rfl | trivial)]; rfl]; clear h1 h2 hb4 hc4) | (go_at_call 12; refine (awake_calls _).mono ?_; rintro e w5 ⟨rfl, hb5⟩; have HB5 := Aside0.mk (below_step HB4.out hb5); clear hb5))
        go_ret
        exact ⟨rfl, HB5.out⟩
      | true =>
        go_enter Try.func4, Try.ntmps4
        go_wp2_with (first | (go_at_call 11; refine HBG.out.mono ?_; rintro e w1 ⟨rfl, hb1⟩; have HB1 := Aside0.mk hb1; clear hb1) | (go_at_call 13; refine (HT.out _ HB1.out).mono ?_; rintro e w2 ⟨rfl, hb2⟩; have HB2 := Aside0.mk (below_step HB1.out hb2); clear hb2) | (go_at_call 14; refine (HR.out _ HB2.out).mono ?_; rintro e w3 ⟨rfl, hb3⟩; have HB3 := Aside0.mk (below_step HB2.out hb3); clear hb3) | (go_at_call 15; refine (HO.out _ HB3.out).mono ?_; rintro e w4 ⟨v4, m, rfl, ⟨A4, c4, rfl, hc4⟩, h1, h2, hb4⟩; have HB4 := Aside0.mk (below_step HB3.out hb4); have HM := Aside0.mk (h1 (by first | rfl | trivial)); have HC4 := Aside0.mk hc4; clear h1 h2 hb4 hc4) | (go_at_call 16; refine (way_loops (cp := cp) HX.out HM.out.1 HM.out.2 (Kd.C_below HH.out HB4.out) HL.out HC4.out).mono ?_; rintro e w6 ⟨rfl, hb6⟩; have HB6 := Aside0.mk (below_step HB4.out hb6); clear hb6) | (go_at_call 12; refine (awake_calls _).mono ?_; rintro e w5 ⟨rfl, hb5⟩; have HB5 := Aside0.mk (below_step HB6.out hb5); clear hb5))
        go_ret
        exact ⟨rfl, HB5.out⟩
    · exact terminates_err A cp l w h hbig hgo (by decide) hx
    · exact terminates_err A cp l w h hbig hgo (by decide) hx
end Go.Proofs.Ytiepinfcndefhaa.S
