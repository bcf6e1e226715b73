/- Does a graph loop; is it bad: the walks. No condition. -/
import Derived.Test.YtiepinfcndefhaaSb
import Derived.Test.YtiepinfcndefhaaSc
namespace Go.Proofs.Ytiepinfcndefhaa.S
open Go.RowKit Go.Proofs.YtiepinfcndefhaaW.PrintWords Go.Proofs.YtiepinfcndefhaaW.PrintLast Go.Proofs.YtiepinfcndefhaaW.PrintMore
set_option linter.unusedVariables false
set_option linter.unusedSimpArgs false

theorem load_run {P : Program} {W : World} {o : Oper} {a : Act} {ty : TypeId} {x : Operand} (ho : o.op = .load ty x) {b : Nat} {t : TypeId} {cs : Array Value} {d : TypeDesc} (hx : a.eval x = .pointer (some ⟨b, 0, none⟩)) (hb : W.heap[b]? = some (.cells cs t))
    (hd : (match d with | .struct _ | .array _ _ => true | _ => false) = true) (hu : P.underlying ty = some d) (hi : (P.info? ty).map (·.size) = some cs.size) : (execOp a.eval o).run P W = .ok (.value (.agg cs)) W := by
  have hr := run_loadVar_row (P := P) W b t ty cs (0, 0) d hb hu (by revert hd; cases d <;> simp) hi
  simp [execOp, ho, hx, Instr.loadAt, Instr.sureAddr, Sem.run_bind, Sem.run_pure, Result.andThen, hr]
theorem eql_run {P : Program} {W : World} {o : Oper} {a : Act} {ty ty2 : TypeId} {x y : Operand} {xs ys : Array Value} {b : Bool} (ho : o.op = .binOp .eql ty x y ty2) (hx : a.eval x = .agg xs) (hy : a.eval y = .agg ys)
    (hm : P.eqGuardType P.depth ty = false) (hq : (binOp .eql ty (.agg xs) (.agg ys)).run P W = .ok (.bool b) W) : (execOp a.eval o).run P W = .ok (.value (.bool b)) W := by
  have h1 := run_eqGuard_agg (P := P) W .eql ty x y xs ys hm
  simp [execOp, ho, hx, hy, h1, hq, Sem.run_bind, Result.andThen]
/-- A whole struct out of a part of a block. -/
theorem part_run {P : Program} {W : World} {o : Oper} {a : Act} {ty : TypeId} {x : Operand} (ho : o.op = .load ty x) {b f : Nat} {t : TypeId} {all cs : Array Value} {d : TypeDesc} (hx : a.eval x = .pointer (some ⟨b, f, none⟩)) (hb : W.heap[b]? = some (.cells all t (0, 0))) (hs : ∀ j v, cs[j]? = some v → all[f + j]? = some v)
    (hd : (match d with | .struct _ | .array _ _ => true | _ => false) = true) (hu : P.underlying ty = some d) (hi : (P.info? ty).map (·.size) = some cs.size) : (execOp a.eval o).run P W = .ok (.value (.agg cs)) W := by
  have hl : (loadCells ⟨b, f, none⟩ cs.toList.length).run P W = .ok cs.toList.toArray W :=
    run_loadCells_list (P := P) W ⟨b, f, none⟩ cs.toList (fun j v hv => by
      have hadd : (⟨b, f, none⟩ : Addr).add j = ⟨b, f + j, none⟩ := by unfold Addr.add; split <;> simp_all
      rw [hadd, cell_of_row W b (f + j) all t (0, 0) hb]
      exact hs j v (by simpa using hv))
  cases hq : P.info? ty with
  | none => simp [hq] at hi
  | some i =>
    have hsz : i.size = cs.size := by simpa [hq] using hi
    have hr : (loadVar ty ⟨b, f, none⟩).run P W = .ok (.agg cs) W := by
      simp only [Array.length_toList, Array.toArray_toList] at hl
      cases d <;> simp at hd <;> simp [loadVar, isAgg, sizeOf, typeInfo, hq, run_underlying hu, Sem.run_bind, Result.andThen, hsz, hl]
    simp [execOp, ho, hx, Instr.loadAt, Instr.sureAddr, Sem.run_bind, Sem.run_pure, Result.andThen, hr]
section
variable {P : Program} {ops : Array Oper} {rest : List Oper} {o : Oper} {a : Act} {Q : Exit → Act → World → Prop} {W : World}
theorem run_law (hw : Region.wanted o (yielded ops a.tmps) = true) (v : Value) (hrun : (execOp a.eval o).run P W = .ok (.value v) W) (h : wpList P ops Q rest (a.put o.dst v) W) : wpList P ops Q (o :: rest) a W := by
  unfold wpList
  rw [if_pos hw]
  left
  unfold Oper.wp
  rw [hrun]
  exact h
end
/-- A graph with its way, as the program has them. -/
def cM (g : Gr) (v : Value) : Array Value := (cG g).push v
theorem cM_at {g : Gr} {v : Value} (j : Nat) (u : Value) (h : (cG g)[j]? = some u) : (cM g v)[0 + j]? = some u := by
  have hj := (Array.getElem?_eq_some_iff.1 h).1
  rw [Nat.zero_add]
  unfold cM
  rw [Array.getElem?_push]
  rw [if_neg (by omega), h]
theorem bytes_inj {a b : ByteArray} (h : a.toList = b.toList) : a = b := by
  rw [ByteArray.toList_eq, ByteArray.toList_eq] at h
  cases a; cases b
  simp at h
  rw [h]
theorem thenG_ok {g h : Gr} (hg : GOk g) (hh : GOk h) : GOk (thenG g h) := ⟨thenG_tab hg.tab hh.tab, hg.s1, hh.s2⟩

set_option maxRecDepth 100000 in
theorem loops_calls (g : Gr) (hg : GOk g) (w : World) :
    Calls Try.prog 69 #[vG g] w fun e w' => e = .returned (.bool (loopB g)) ∧ Below w.heap.size w w' := by
  unfold vG
  have sg := Aside0.mk (cG_size hg.tab)
  have g0 := cG_0 g
  have g1 := cG_1 g
  generalize hcg : cG g = cg at sg g0 g1
  have HCG := Aside0.mk hcg
  clear hcg
  go_enter Try.func69, Try.ntmps69
  go_wp2
  have G0 := Aside0.mk (blk_new w (.cells cg 81))
  have HB := Aside0.mk (below_alloc (Below.refl w.heap.size w) (.cells cg 81))
  generalize w.alloc (.cells cg 81) = W at G0 HB ⊢
  by_cases hs : g.src = g.dst
  · have e2 : (g.src.toList == g.dst.toList) = true := by rw [hs]; exact beq_self_eq_true _
    have e1 : (g.src == g.dst) = true := (beq_toListBytes _ _).trans e2
    have HR := Aside0.mk (show loopB g = decide (thenG g g = g) by unfold loopB; rw [decide_eq_true hs, Bool.true_and])
    clear hs
    obtain ⟨ct, hct⟩ : ∃ c, c = cG (thenG g g) := ⟨_, rfl⟩
    have HCT := Aside0.mk hct
    clear hct
    have HM := Aside0.mk (show Try.prog.eqGuardType Try.prog.depth 81 = false by kernel_rfl)
    have HQ := Aside0.mk (show ∀ w', (binOp .eql 81 (.agg ct) (.agg cg)).run Try.prog w' = .ok (.bool (decide (thenG g g = g))) w' from fun w' => by
      have := eql_g (thenG_ok hg hg) hg w'
      unfold vG at this
      rw [HCT.out, ← HCG.out]
      exact this)
    refine start_ (n := 13) (S := fun w' => w'.heap[w.heap.size]? = some (.cells cg 81 (0, 0)) ∧ Below w.heap.size w w') (ds := []) #[false, false, false, false, false, false, false, false, false, false, false, false, false] (by kernel_rfl) rfl rfl ⟨G0.out, below_drew HB.out⟩ (fun hHeld => ?_)
    refine pure_ (i := 0) (N := some 3) (v := ?_) (a' := ?_) #[true, false, false, false, false, false, false, false, false, false, false, false, false] rfl rfl (by kernel_rfl) (fun _ _ _ h => h) (Or.inl ⟨by rfl, ?_⟩) ?_ ?_
    rotate_left
    · intro w'
      go_simp
      with_reducible rfl
    rotate_left
    · simp only [Act.put, List.setIfInBounds_toArray, List.set_cons_zero, List.set_cons_succ, i64_w, i32_w]
      rfl
    refine take_ (i := 1) (N := some 4) (v := ?_) (a' := ?_) #[true, true, false, false, false, false, false, false, false, false, false, false, false] rfl rfl (by kernel_rfl) (fun _ _ _ h => h) (Or.inl ⟨by rfl, ?_⟩) hHeld ?_ ?_
    rotate_left
    · rintro w' ⟨s0, s1⟩
      have z0 := blk_at s0 g0
      have z1 := blk_at s0 g1
      go_simp
      with_reducible rfl
    rotate_left
    · simp only [Act.put, List.setIfInBounds_toArray, List.set_cons_zero, List.set_cons_succ, i64_w, i32_w]
      rfl
    refine pure_ (i := 2) (N := some 5) (v := ?_) (a' := ?_) #[true, true, true, false, false, false, false, false, false, false, false, false, false] rfl rfl (by kernel_rfl) (fun _ _ _ h => h) (Or.inl ⟨by rfl, ?_⟩) ?_ ?_
    rotate_left
    · intro w'
      go_simp
      with_reducible rfl
    rotate_left
    · simp only [Act.put, List.setIfInBounds_toArray, List.set_cons_zero, List.set_cons_succ, i64_w, i32_w]
      rfl
    refine take_ (i := 3) (N := some 6) (v := ?_) (a' := ?_) #[true, true, true, true, false, false, false, false, false, false, false, false, false] rfl rfl (by kernel_rfl) (fun _ _ _ h => h) (Or.inl ⟨by rfl, ?_⟩) hHeld ?_ ?_
    rotate_left
    · rintro w' ⟨s0, s1⟩
      have z0 := blk_at s0 g0
      have z1 := blk_at s0 g1
      go_simp
      with_reducible rfl
    rotate_left
    · simp only [Act.put, List.setIfInBounds_toArray, List.set_cons_zero, List.set_cons_succ, i64_w, i32_w]
      rfl
    refine pure_ (i := 4) (N := some 7) (v := ?_) (a' := ?_) #[true, true, true, true, true, false, false, false, false, false, false, false, false] rfl rfl (by kernel_rfl) (fun _ _ _ h => h) (Or.inl ⟨by rfl, ?_⟩) ?_ ?_
    rotate_left
    · intro w'
      go_simp
      with_reducible rfl
    rotate_left
    · simp only [Act.put, List.setIfInBounds_toArray, List.set_cons_zero, List.set_cons_succ, i64_w, i32_w]
      rfl
    refine pure_ (i := 5) (N := some 8) (v := ?_) (a' := ?_) #[true, true, true, true, true, true, false, false, false, false, false, false, false] rfl rfl (by kernel_rfl) (fun _ _ _ h => h) (Or.inl ⟨by rfl, ?_⟩) ?_ ?_
    rotate_left
    · intro w'
      go_simp
      with_reducible rfl
    rotate_left
    · simp only [Act.put, List.setIfInBounds_toArray, List.set_cons_zero, List.set_cons_succ, i64_w, i32_w]
      rfl
    refine take_ (i := 6) (N := some 9) (v := ?_) (a' := ?_) #[true, true, true, true, true, true, true, false, false, false, false, false, false] rfl rfl (by kernel_rfl) (fun _ _ _ h => h) (Or.inl ⟨by rfl, ?_⟩) hHeld ?_ ?_
    rotate_left
    · rintro w' ⟨s0, s1⟩
      refine load_run (ty := 81) (x := .tmp 1) (b := w.heap.size) (t := 81) (cs := cg) ?h1 ?h2 s0 ?h3 Try.underlying81 ?h4
      case h1 => rfl
      case h2 => rfl
      case h3 => rfl
      case h4 => rw [sg.out]; kernel_rfl
    rotate_left
    · simp only [Act.put, List.setIfInBounds_toArray, List.set_cons_zero, List.set_cons_succ, i64_w, i32_w]
      rfl
    refine take_ (i := 7) (N := some 10) (v := ?_) (a' := ?_) #[true, true, true, true, true, true, true, true, false, false, false, false, false] rfl rfl (by kernel_rfl) (fun _ _ _ h => h) (Or.inl ⟨by rfl, ?_⟩) hHeld ?_ ?_
    rotate_left
    · rintro w' ⟨s0, s1⟩
      refine load_run (ty := 81) (x := .tmp 1) (b := w.heap.size) (t := 81) (cs := cg) ?h1 ?h2 s0 ?h3 Try.underlying81 ?h4
      case h1 => rfl
      case h2 => rfl
      case h3 => rfl
      case h4 => rw [sg.out]; kernel_rfl
    rotate_left
    · simp only [Act.put, List.setIfInBounds_toArray, List.set_cons_zero, List.set_cons_succ, i64_w, i32_w]
      rfl
    refine take_ (i := 9) (N := some 12) (v := ?_) (a' := ?_) #[true, true, true, true, true, true, true, true, false, true, false, false, false] rfl rfl (by kernel_rfl) (fun _ _ _ h => h) (Or.inl ⟨by rfl, ?_⟩) hHeld ?_ ?_
    rotate_left
    · rintro w' ⟨s0, s1⟩
      refine load_run (ty := 81) (x := .tmp 1) (b := w.heap.size) (t := 81) (cs := cg) ?h1 ?h2 s0 ?h3 Try.underlying81 ?h4
      case h1 => rfl
      case h2 => rfl
      case h3 => rfl
      case h4 => rw [sg.out]; kernel_rfl
    rotate_left
    · simp only [Act.put, List.setIfInBounds_toArray, List.set_cons_zero, List.set_cons_succ, i64_w, i32_w]
      rfl
    refine one_ (i := 8) (N := some 11) #[true, true, true, true, true, true, true, true, true, true, false, false, false] rfl rfl (by kernel_rfl) (by decide) (fun K hK => ?_)
    refine goes_ Try.func46 (by kernel_rfl) rfl #[.agg cg, .agg cg] (by rfl) rfl rfl (by (try simp only [List.map_toArray, List.map_cons, List.map_nil]); first | done | rfl) ?_
    refine (show Calls Try.prog 46 #[.agg cg, .agg cg] _ _ from (by rw [← HCG.out]; exact then_calls g g hg.tab hg.tab _)).mono ?_
    rintro e2 w7 ⟨he2, hb7⟩
    replace he2 : e2 = .returned (.agg ct) := by rw [HCT.out]; exact he2
    subst he2
    refine ⟨_, rfl, ?_⟩
    refine hK.out _ _ ⟨blk_below hHeld.1 hb7, below_step hHeld.2 hb7⟩ (fun hHeld2 => ?_)
    clear hK K hb7 hHeld
    have hHeld := hHeld2
    clear hHeld2
    refine norm_ (a' := ?_) ?_ ?_
    rotate_left
    · show Act.put _ (some 11) _ = _
      simp only [Act.put, List.setIfInBounds_toArray, List.set_cons_zero, List.set_cons_succ, i64_w, i32_w]
      rfl
    refine pure_ (i := 10) (N := some 13) (v := ?_) (a' := ?_) #[true, true, true, true, true, true, true, true, true, true, true, false, false] rfl rfl (by kernel_rfl) (fun _ _ _ h => h) (Or.inl ⟨by rfl, ?_⟩) ?_ ?_
    rotate_left
    · intro w'
      refine eql_run (ty := 81) (ty2 := 81) (x := .tmp 11) (y := .tmp 12) (xs := ct) (ys := cg) ?h1 ?h2 ?h3 HM.out (HQ.out w')
      case h1 => rfl
      case h2 => rfl
      case h3 => rfl
    rotate_left
    · simp only [Act.put, List.setIfInBounds_toArray, List.set_cons_zero, List.set_cons_succ, i64_w, i32_w]
      rfl
    refine pure_ (i := 11) (N := some 14) (v := ?_) (a' := ?_) #[true, true, true, true, true, true, true, true, true, true, true, true, false] rfl rfl (by kernel_rfl) (fun _ _ _ h => h) (Or.inl ⟨by rfl, ?_⟩) ?_ ?_
    rotate_left
    · intro w'
      go_simp
      with_reducible rfl
    rotate_left
    · simp only [Act.put, List.setIfInBounds_toArray, List.set_cons_zero, List.set_cons_succ, i64_w, i32_w]
      rfl
    refine pure_ (i := 12) (N := some 2) (v := ?_) (a' := ?_) #[true, true, true, true, true, true, true, true, true, true, true, true, true] rfl rfl (by kernel_rfl) (fun _ _ _ h => h) (Or.inl ⟨by rfl, ?_⟩) ?_ ?_
    rotate_left
    · intro w'
      go_simp
      with_reducible rfl
    rotate_left
    · simp only [Act.put, List.setIfInBounds_toArray, List.set_cons_zero, List.set_cons_succ, i64_w, i32_w]
      rfl
    refine done_ (by kernel_rfl) ?_
    go_wp2
    go_ret
    exact ⟨by show _ = Ending.returned (.bool (loopB g)); rw [HR.out]; rfl, hHeld.2⟩
  · have e2 : (g.src.toList == g.dst.toList) = false := beq_eq_false_iff_ne.mpr (fun e => hs (bytes_inj e))
    have e1 : (g.src == g.dst) = false := (beq_toListBytes _ _).trans e2
    have HR := Aside0.mk (show loopB g = false by unfold loopB; rw [decide_eq_false hs, Bool.false_and])
    clear hs
    refine start_ (n := 13) (S := fun w' => w'.heap[w.heap.size]? = some (.cells cg 81 (0, 0)) ∧ Below w.heap.size w w') (ds := []) #[false, false, false, false, false, false, false, false, false, false, false, false, false] (by kernel_rfl) rfl rfl ⟨G0.out, below_drew HB.out⟩ (fun hHeld => ?_)
    refine pure_ (i := 0) (N := some 3) (v := ?_) (a' := ?_) #[true, false, false, false, false, false, false, false, false, false, false, false, false] rfl rfl (by kernel_rfl) (fun _ _ _ h => h) (Or.inl ⟨by rfl, ?_⟩) ?_ ?_
    rotate_left
    · intro w'
      go_simp
      with_reducible rfl
    rotate_left
    · simp only [Act.put, List.setIfInBounds_toArray, List.set_cons_zero, List.set_cons_succ, i64_w, i32_w]
      rfl
    refine take_ (i := 1) (N := some 4) (v := ?_) (a' := ?_) #[true, true, false, false, false, false, false, false, false, false, false, false, false] rfl rfl (by kernel_rfl) (fun _ _ _ h => h) (Or.inl ⟨by rfl, ?_⟩) hHeld ?_ ?_
    rotate_left
    · rintro w' ⟨s0, s1⟩
      have z0 := blk_at s0 g0
      have z1 := blk_at s0 g1
      go_simp
      with_reducible rfl
    rotate_left
    · simp only [Act.put, List.setIfInBounds_toArray, List.set_cons_zero, List.set_cons_succ, i64_w, i32_w]
      rfl
    refine pure_ (i := 2) (N := some 5) (v := ?_) (a' := ?_) #[true, true, true, false, false, false, false, false, false, false, false, false, false] rfl rfl (by kernel_rfl) (fun _ _ _ h => h) (Or.inl ⟨by rfl, ?_⟩) ?_ ?_
    rotate_left
    · intro w'
      go_simp
      with_reducible rfl
    rotate_left
    · simp only [Act.put, List.setIfInBounds_toArray, List.set_cons_zero, List.set_cons_succ, i64_w, i32_w]
      rfl
    refine take_ (i := 3) (N := some 6) (v := ?_) (a' := ?_) #[true, true, true, true, false, false, false, false, false, false, false, false, false] rfl rfl (by kernel_rfl) (fun _ _ _ h => h) (Or.inl ⟨by rfl, ?_⟩) hHeld ?_ ?_
    rotate_left
    · rintro w' ⟨s0, s1⟩
      have z0 := blk_at s0 g0
      have z1 := blk_at s0 g1
      go_simp
      with_reducible rfl
    rotate_left
    · simp only [Act.put, List.setIfInBounds_toArray, List.set_cons_zero, List.set_cons_succ, i64_w, i32_w]
      rfl
    refine pure_ (i := 4) (N := some 7) (v := ?_) (a' := ?_) #[true, true, true, true, true, false, false, false, false, false, false, false, false] rfl rfl (by kernel_rfl) (fun _ _ _ h => h) (Or.inl ⟨by rfl, ?_⟩) ?_ ?_
    rotate_left
    · intro w'
      go_simp
      with_reducible rfl
    rotate_left
    · simp only [Act.put, List.setIfInBounds_toArray, List.set_cons_zero, List.set_cons_succ, i64_w, i32_w]
      rfl
    refine pure_ (i := 5) (N := some 8) (v := ?_) (a' := ?_) #[true, true, true, true, true, true, false, false, false, false, false, false, false] rfl rfl (by kernel_rfl) (fun _ _ _ h => h) (Or.inl ⟨by rfl, ?_⟩) ?_ ?_
    rotate_left
    · intro w'
      go_simp
      with_reducible rfl
    rotate_left
    · simp only [Act.put, List.setIfInBounds_toArray, List.set_cons_zero, List.set_cons_succ, i64_w, i32_w]
      rfl
    refine pure_ (i := 6) (N := some 9) (v := undef) (a' := ?_) #[true, true, true, true, true, true, true, false, false, false, false, false, false] rfl rfl (by kernel_rfl) (fun _ _ _ h => h) (Or.inr ⟨by rfl, rfl⟩) ?_ ?_
    rotate_left
    · simp only [Act.put, List.setIfInBounds_toArray, List.set_cons_zero, List.set_cons_succ, i64_w, i32_w]
      rfl
    refine pure_ (i := 7) (N := some 10) (v := undef) (a' := ?_) #[true, true, true, true, true, true, true, true, false, false, false, false, false] rfl rfl (by kernel_rfl) (fun _ _ _ h => h) (Or.inr ⟨by rfl, rfl⟩) ?_ ?_
    rotate_left
    · simp only [Act.put, List.setIfInBounds_toArray, List.set_cons_zero, List.set_cons_succ, i64_w, i32_w]
      rfl
    refine pure_ (i := 8) (N := some 11) (v := undef) (a' := ?_) #[true, true, true, true, true, true, true, true, true, false, false, false, false] rfl rfl (by kernel_rfl) (fun _ _ _ h => h) (Or.inr ⟨by rfl, rfl⟩) ?_ ?_
    rotate_left
    · simp only [Act.put, List.setIfInBounds_toArray, List.set_cons_zero, List.set_cons_succ, i64_w, i32_w]
      rfl
    refine pure_ (i := 9) (N := some 12) (v := undef) (a' := ?_) #[true, true, true, true, true, true, true, true, true, true, false, false, false] rfl rfl (by kernel_rfl) (fun _ _ _ h => h) (Or.inr ⟨by rfl, rfl⟩) ?_ ?_
    rotate_left
    · simp only [Act.put, List.setIfInBounds_toArray, List.set_cons_zero, List.set_cons_succ, i64_w, i32_w]
      rfl
    refine pure_ (i := 10) (N := some 13) (v := undef) (a' := ?_) #[true, true, true, true, true, true, true, true, true, true, true, false, false] rfl rfl (by kernel_rfl) (fun _ _ _ h => h) (Or.inr ⟨by rfl, rfl⟩) ?_ ?_
    rotate_left
    · simp only [Act.put, List.setIfInBounds_toArray, List.set_cons_zero, List.set_cons_succ, i64_w, i32_w]
      rfl
    refine pure_ (i := 11) (N := some 14) (v := ?_) (a' := ?_) #[true, true, true, true, true, true, true, true, true, true, true, true, false] rfl rfl (by kernel_rfl) (fun _ _ _ h => h) (Or.inl ⟨by rfl, ?_⟩) ?_ ?_
    rotate_left
    · intro w'
      go_simp
      with_reducible rfl
    rotate_left
    · simp only [Act.put, List.setIfInBounds_toArray, List.set_cons_zero, List.set_cons_succ, i64_w, i32_w]
      rfl
    refine pure_ (i := 12) (N := some 2) (v := ?_) (a' := ?_) #[true, true, true, true, true, true, true, true, true, true, true, true, true] rfl rfl (by kernel_rfl) (fun _ _ _ h => h) (Or.inl ⟨by rfl, ?_⟩) ?_ ?_
    rotate_left
    · intro w'
      go_simp
      with_reducible rfl
    rotate_left
    · simp only [Act.put, List.setIfInBounds_toArray, List.set_cons_zero, List.set_cons_succ, i64_w, i32_w]
      rfl
    refine done_ (by kernel_rfl) ?_
    go_wp2
    go_ret
    exact ⟨by show _ = Ending.returned (.bool (loopB g)); rw [HR.out]; rfl, hHeld.2⟩
set_option maxRecDepth 100000 in
theorem bad1_calls (g : Gr) (hg : GOk g) (v : Value) (w : World) :
    Calls Try.prog 68 #[.agg (cM g v)] w fun e w' => e = .returned (.bool (badB g)) ∧ Below w.heap.size w w' := by
  have sg := Aside0.mk (cG_size hg.tab)
  have HM := Aside0.mk (fun j u h => cM_at (g := g) (v := v) j u h)
  have HL := Aside0.mk (loops_calls g hg)
  have HD := Aside0.mk (descends_calls g hg.tab)
  unfold vG at HL HD
  generalize hcg : cG g = cg at sg HM HL HD
  clear hcg
  generalize hcm : cM g v = cm at HM ⊢
  clear hcm
  go_enter Try.func68, Try.ntmps68
  by_cases hl : loopB g = true
  · have HR := Aside0.mk (show badB g = !descB g by unfold badB; rw [hl, Bool.true_and])
    rw [hl] at HL
    clear hl
    go_wp2_with (first | ((with_reducible refine gate_load (t := 81) (x := .tmp 3) rfl ?_); refine run_law (by rfl) (.agg cg) (part_run (ty := 81) (x := .tmp 3) (b := w.heap.size) (f := 0) (t := 83) (all := cm) (cs := cg) ?h1 ?h2 ?hb HM.out ?h3 Try.underlying81 ?h4) ?_; (case h1 => rfl); (case h2 => rfl); (case hb => exact blk_new _ _); (case h3 => rfl); (case h4 => rw [sg.out]; kernel_rfl)) | ((with_reducible refine gate_load (t := 81) (x := .tmp 7) rfl ?_); refine run_law (by rfl) (.agg cg) (part_run (ty := 81) (x := .tmp 7) (b := w.heap.size) (f := 0) (t := 83) (all := cm) (cs := cg) ?h1 ?h2 ?hb HM.out ?h3 Try.underlying81 ?h4) ?_; (case h1 => rfl); (case h2 => rfl); (case hb => exact G0.out); (case h3 => rfl); (case h4 => rw [sg.out]; kernel_rfl)) | (go_at_call 69; refine (HL.out _).mono ?_; rintro e w5 ⟨rfl, hb5⟩; have G0 := Aside0.mk (blk_below (blk_new w (.cells cm 83)) hb5); have HB := Aside0.mk (below_step (below_alloc (Below.refl w.heap.size w) (.cells cm 83)) hb5); clear hb5) | (go_at_call 70; refine (HD.out _).mono ?_; rintro e w6 ⟨rfl, hb6⟩; have HB := Aside0.mk (below_step HB.out hb6); clear hb6))

    go_ret
    exact ⟨by show _ = Ending.returned (.bool (badB g)); rw [HR.out]; rfl, HB.out⟩
  · have hl : loopB g = false := Bool.eq_false_iff.mpr hl
    have HR := Aside0.mk (show badB g = false by unfold badB; rw [hl, Bool.false_and])
    rw [hl] at HL
    clear hl
    go_wp2_with (first | ((with_reducible refine gate_load (t := 81) (x := .tmp 3) rfl ?_); refine run_law (by rfl) (.agg cg) (part_run (ty := 81) (x := .tmp 3) (b := w.heap.size) (f := 0) (t := 83) (all := cm) (cs := cg) ?h1 ?h2 ?hb HM.out ?h3 Try.underlying81 ?h4) ?_; (case h1 => rfl); (case h2 => rfl); (case hb => exact blk_new _ _); (case h3 => rfl); (case h4 => rw [sg.out]; kernel_rfl)) | (go_at_call 69; refine (HL.out _).mono ?_; rintro e w5 ⟨rfl, hb5⟩; have HB := Aside0.mk (below_step (below_alloc (Below.refl w.heap.size w) (.cells cm 83)) hb5); clear hb5))
    go_ret
    exact ⟨by show _ = Ending.returned (.bool (badB g)); rw [HR.out]; rfl, HB.out⟩
end Go.Proofs.Ytiepinfcndefhaa.S
