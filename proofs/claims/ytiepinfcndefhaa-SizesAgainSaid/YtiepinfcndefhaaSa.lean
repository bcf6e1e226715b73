/- Graphs as the program has them; composing two. No condition. -/
import Derived.Test.YtiepinfcndefhaaProg
import Derived.Test.YtiepinfcndefhaaV
import Derived.Test.YtiepinfcndefhaaVX
import Derived.Test.YtiepinfcndefhaaVY
import Derived.Test.YtiepinfcndefhaaMc
import Derived.Deep.WholeRow
namespace Go.Proofs.Ytiepinfcndefhaa.S
open Go.RowKit Go.Proofs.YtiepinfcndefhaaW.PrintWords Go.Proofs.YtiepinfcndefhaaW.PrintLast Go.Proofs.YtiepinfcndefhaaW.PrintMore
set_option linter.unusedVariables false
set_option linter.unusedSimpArgs false

/-- A graph's cells. -/
def cG (g : Gr) : Array Value := ([Value.string g.src, Value.string g.dst] ++ g.tab.map (Value.int .u8)).toArray
def vG (g : Gr) : Value := .agg (cG g)

section
variable {P : Program} {ops : Array Oper} {rest : List Oper} {o : Oper} {a : Act} {Q : Exit → Act → World → Prop} {W : World}
/-- A whole struct or array out of its block. -/
theorem load_whole (hgd : o.guard = none) {ty : TypeId} {x : Operand} (ho : o.op = .load ty x) (b : Nat) (t : TypeId) (cs : Array Value) (d : TypeDesc) (hx : a.eval x = .pointer (some ⟨b, 0, none⟩)) (hb : W.heap[b]? = some (.cells cs t))
    (hu : P.underlying ty = some d) (hd : (match d with | .struct _ | .array _ _ => true | _ => false) = true) (hi : (P.info? ty).map (·.size) = some cs.size)
    (h : wpList P ops Q rest (a.put o.dst (.agg cs)) W) : wpList P ops Q (o :: rest) a W := by
  refine wpList_plain hgd fun K hK => ?_
  unfold Oper.wp
  have hr := run_loadVar_row (P := P) W b t ty cs (0, 0) d hb hu hd hi
  have : (execOp a.eval o).run P W = .ok (.value (.agg cs)) W := by
    simp [execOp, ho, hx, Instr.loadAt, Instr.sureAddr, Sem.run_bind, Sem.run_pure, Result.andThen, hr]
  rw [this]
  exact hK _ _ h
/-- A whole struct or array into its block. -/
theorem store_whole (hgd : o.guard = none) {ty : TypeId} {x v : Operand} (ho : o.op = .store ty x v) (hN : o.dst = none) (b : Nat) (t : TypeId) (old cs : Array Value) (hx : a.eval x = .pointer (some ⟨b, 0, none⟩)) (hv : a.eval v = .agg cs) (hb : W.heap[b]? = some (.cells old t))
    (hi : (P.info? ty).map (·.size) = some cs.size) (hs : old.size = cs.size) (h1 : cs.all (·.oneCell') = true)
    (h : wpList P ops Q rest a (W.setRow b cs)) : wpList P ops Q (o :: rest) a W := by
  refine wpList_plain hgd fun K hK => ?_
  unfold Oper.wp
  have hr := run_storeVar_row (P := P) W b t ty old cs hb hi hs h1
  have : (execOp a.eval o).run P W = .ok .skip (W.setRow b cs) := by
    simp [execOp, ho, hx, hv, Instr.storeAt, Instr.sureAddr, Sem.run_bind, Sem.run_pure, Result.andThen, hr]
  rw [this]
  show K (a.put o.dst undef) _
  rw [hN]
  exact hK _ _ h
theorem gate_build {t : TypeId} {q : Array (Nat × Operand)} (_ho : o.op = .build t q) (h : wpList P ops Q (o :: rest) a W) : wpList P ops Q (o :: rest) a W := h
theorem gate_alloc {t : TypeId} (_ho : o.op = .alloc t) (h : wpList P ops Q (o :: rest) a W) : wpList P ops Q (o :: rest) a W := h
theorem gate_load {t : TypeId} {x : Operand} (_ho : o.op = .load t x) (h : wpList P ops Q (o :: rest) a W) : wpList P ops Q (o :: rest) a W := h
/-- A value under a name. -/
theorem value_law (hgd : o.guard = none) (v : Value) (hrun : (execOp a.eval o).run P W = .ok (.value v) W) (h : ∀ u, u = v → wpList P ops Q rest (a.put o.dst u) W) : wpList P ops Q (o :: rest) a W := by
  refine wpList_plain hgd fun K hK => ?_
  unfold Oper.wp
  rw [hrun]
  exact hK _ _ (h _ rfl)
/-- A new block, its cells under a name. -/
theorem alloc_law (hgd : o.guard = none) {t : TypeId} (c : Array Value) (hrun : (execOp a.eval o).run P W = .ok (.value (.pointer (some ⟨W.heap.size, 0, none⟩))) (W.alloc (.cells c t))) (h : ∀ u, u = c → wpList P ops Q rest (a.put o.dst (.pointer (some ⟨W.heap.size, 0, none⟩))) (W.alloc (.cells u t))) : wpList P ops Q (o :: rest) a W := by
  refine wpList_plain hgd fun K hK => ?_
  unfold Oper.wp
  rw [hrun]
  exact hK _ _ (h _ rfl)
theorem store_last (hgd : o.guard = none) {ty : TypeId} {x v : Operand} (ho : o.op = .store ty x v) (hN : o.dst = none) (b : Nat) (t : TypeId) (old cs : Array Value) (hx : a.eval x = .pointer (some ⟨b, 0, none⟩)) (hv : a.eval v = .agg cs) (hb : b = W.heap.size)
    (hi : (P.info? ty).map (·.size) = some cs.size) (hs : old.size = cs.size) (h1 : cs.all (·.oneCell') = true)
    (h : wpList P ops Q rest a (W.alloc (.cells cs t))) : wpList P ops Q (o :: rest) a (W.alloc (.cells old t)) := by
  subst hb
  exact store_whole hgd ho hN W.heap.size t old cs hx hv (heap_alloc_last _ _) hi hs h1 (by rw [World.setRow_alloc_new]; exact h)
end
theorem cG_size {g : Gr} (hg : GTab g) : (cG g).size = 38 := by simp [cG, hg.len]
theorem cG_0 (g : Gr) : (cG g)[0]? = some (.string g.src) := by simp [cG]
theorem cG_1 (g : Gr) : (cG g)[1]? = some (.string g.dst) := by simp [cG]
theorem cG_at {g : Gr} (hl : g.tab.length = 36) {i j : Nat} (hi : i < 6) (hj : j < 6) : (cG g)[2 + i * 6 + j]? = some (.int .u8 (tat g.tab i j)) := by
  have e : 2 + i * 6 + j = (6 * i + j) + 1 + 1 := by omega
  unfold cG tat
  rw [List.getElem?_toArray, e]
  simp only [List.cons_append, List.nil_append, List.getElem?_cons_succ, List.getElem?_map]
  rw [List.getD_eq_getElem?_getD, List.getElem?_eq_getElem (show 6 * i + j < g.tab.length by omega)]
  rfl

/-- What stands in memory while two graphs are composed. -/
structure Th (w W : World) (gb hb zb ob : Nat) (cg ch zc co : Array Value) : Prop where
  below : Below w.heap.size w W
  g : W.heap[gb]? = some (.cells cg 81 (0, 0))
  h : W.heap[hb]? = some (.cells ch 81 (0, 0))
  z : W.heap[zb]? = some (.cells zc 81 (0, 0))
  o : W.heap[ob]? = some (.cells co 81 (0, 0))
  ge : w.heap.size ≤ zb ∧ w.heap.size ≤ ob
  ne : gb ≠ ob ∧ hb ≠ ob ∧ zb ≠ ob
theorem blk_at {W : World} {b k : Nat} {c : Array Value} {v : Value} {t : TypeId} (h : W.heap[b]? = some (.cells c t (0, 0))) (hk : c[k]? = some v) : W.cell? ⟨b, k, none⟩ = some v := by
  rw [cell_of_row W b k c t (0, 0) h, hk]
theorem blk_fro {W : World} {b k : Nat} {c : Array Value} {t : TypeId} (h : W.heap[b]? = some (.cells c t (0, 0))) : W.frozen? ⟨b, k, none⟩ = false := by simp [World.frozen?, h]
theorem Th.drew {w W : World} {gb hb zb ob : Nat} {cg ch zc co : Array Value} (t : Th w W gb hb zb ob cg ch zc co) (n : Nat) : Th w (W.drewN n) gb hb zb ob cg ch zc co :=
  ⟨below_step t.below (pw_below_drewN (Below.refl _ _) n), t.g, t.h, t.z, t.o, t.ge, t.ne⟩
theorem heap_set (W : World) (b k : Nat) (v : Value) (c : Array Value) (t : TypeId) (h : W.heap[b]? = some (.cells c t (0, 0))) : (W.setCell ⟨b, k, none⟩ v).heap[b]? = some (.cells (c.setIfInBounds k v) t (0, 0)) := by
  simp [World.setCell, Array.getElem?_modify, h]
theorem cG_one (g : Gr) : (cG g).all (·.oneCell') = true := by
  unfold cG
  rw [List.all_toArray, List.all_append, List.all_map, Bool.and_eq_true]
  exact ⟨rfl, List.all_eq_true.2 fun x _ => rfl⟩
theorem Th.set {w W : World} {gb hb zb ob : Nat} {cg ch zc co : Array Value} (t : Th w W gb hb zb ob cg ch zc co) (k : Nat) (v : Value) : Th w (W.setCell ⟨ob, k, none⟩ v) gb hb zb ob cg ch zc (co.setIfInBounds k v) :=
  ⟨t.below.setCell t.ge.2 v, (Below.heap_setCell W ⟨ob, k, none⟩ v gb t.ne.1).trans t.g, (Below.heap_setCell W ⟨ob, k, none⟩ v hb t.ne.2.1).trans t.h, (Below.heap_setCell W ⟨ob, k, none⟩ v zb t.ne.2.2).trans t.z, heap_set W ob k v co 81 t.o, t.ge, t.ne⟩
theorem cG_set (g : Gr) (i j : Nat) (x : Int) : (cG g).setIfInBounds (2 + i * 6 + j) (.int .u8 x) = cG ⟨g.src, g.dst, g.tab.set (6 * i + j) x⟩ := by
  have e : 2 + i * 6 + j = (6 * i + j) + 1 + 1 := by omega
  unfold cG
  rw [e]
  simp [List.setIfInBounds_toArray, List.map_set]

theorem then_start (w : World) (cg ch zc co : Array Value) : Th w ((((w.alloc (.cells cg 81)).alloc (.cells ch 81)).alloc (.cells zc 81)).alloc (.cells co 81)) w.heap.size (w.heap.size + 1) (w.heap.size + 1 + 1) (w.heap.size + 1 + 1 + 1) cg ch zc co := by
  have e1 : (w.alloc (.cells cg 81)).heap.size = w.heap.size + 1 := World.size_alloc _ _
  have e2 : ((w.alloc (.cells cg 81)).alloc (.cells ch 81)).heap.size = w.heap.size + 1 + 1 := by rw [World.size_alloc, e1]
  have e3 : (((w.alloc (.cells cg 81)).alloc (.cells ch 81)).alloc (.cells zc 81)).heap.size = w.heap.size + 1 + 1 + 1 := by rw [World.size_alloc, e2]
  have h0 := blk_new w (.cells cg 81)
  have h1 := blk_new (w.alloc (.cells cg 81)) (.cells ch 81)
  have h2 := blk_new ((w.alloc (.cells cg 81)).alloc (.cells ch 81)) (.cells zc 81)
  have h3 := blk_new (((w.alloc (.cells cg 81)).alloc (.cells ch 81)).alloc (.cells zc 81)) (.cells co 81)
  rw [e1] at h1
  rw [e2] at h2
  rw [e3] at h3
  have st : ∀ (W : World) (o : Obj), Below W.heap.size W (W.alloc o) := fun W o => below_alloc (Below.refl _ _) o
  exact ⟨below_step (below_step (below_step (st _ _) (st _ _)) (st _ _)) (st _ _), blk_below (blk_below (blk_below h0 (st _ _)) (st _ _)) (st _ _), blk_below (blk_below h1 (st _ _)) (st _ _), blk_below h2 (st _ _), h3, ⟨by omega, by omega⟩, ⟨by omega, by omega, by omega⟩⟩

theorem max3_run (x y z : Int) (w : World) : (Builtin.max_ #[5, 5, 5] 5 #[.int .u8 x, .int .u8 y, .int .u8 z]).run Try.prog w = .ok (.int .u8 (max (max x y) z)) w := by
  have e : ∀ p q : Int, (if p < q then q else p) = max p q := fun p q => by split <;> omega
  rw [max_three, max2_int, e]
  simp only [Sem.run_bind, Sem.run_pure, Result.andThen, max2_int, e]
theorem Th.drew1 {w W : World} {gb hb zb ob : Nat} {cg ch zc co : Array Value} (t : Th w W gb hb zb ob cg ch zc co) : Th w W.drew gb hb zb ob cg ch zc co :=
  ⟨below_step t.below (below_drew1 (Below.refl _ _)), t.g, t.h, t.z, t.o, t.ge, t.ne⟩
theorem results_cell1 {fn : Func} {p : Tmp} {ty t : TypeId} {P : Program} {W : World} {b : Nat} {cs : Array Value} {d : TypeDesc} (h : fn.results = #[.cell p ty]) (tmps : Array Value) (hp : tmps.getD p undef = .pointer (some ⟨b, 0, none⟩)) (hb : W.heap[b]? = some (.cells cs t))
    (hd : (match d with | .struct _ | .array _ _ => true | _ => false) = true) (hu : P.underlying ty = some d) (hi : (P.info? ty).map (·.size) = some cs.size) : (results fn tmps).run P W = .ok (.agg cs) W := by
  have hr := run_loadVar_row (P := P) W b t ty cs (0, 0) d hb hu (by revert hd; cases d <;> simp) hi
  have hp' : tmps[p]?.getD undef = .pointer (some ⟨b, 0, none⟩) := by simpa using hp
  simp only [results, h]
  simp [Sem.run_bind, Result.andThen, hp', asAddr, hr]
theorem setRow_at (W : World) (b : Nat) (cs old : Array Value) (t : TypeId) (h : W.heap[b]? = some (.cells old t (0, 0))) : (W.setRow b cs).heap[b]? = some (.cells cs t (0, 0)) := by
  simp [World.setRow, Array.getElem?_modify, h]
theorem below_setRow' {w W : World} {b : Nat} {cs : Array Value} (h : Below w.heap.size w W) (hb : w.heap.size ≤ b) : Below w.heap.size w (W.setRow b cs) :=
  h.trans ⟨rfl, rfl, rfl, by simp [World.setRow], fun k hk => by simp only [World.setRow]; rw [Array.getElem?_modify, if_neg (by omega)]⟩
set_option maxRecDepth 100000 in
theorem index_row (t : List Int) (i j : Nat) (hj : j < 6) (w : World) : (Instr.index 78 (.agg #[.int .u8 (tat t i 0), .int .u8 (tat t i 1), .int .u8 (tat t i 2), .int .u8 (tat t i 3), .int .u8 (tat t i 4), .int .u8 (tat t i 5)]) (.int .i64 (j : Int))).run Try.prog w = .ok (.int .u8 (tat t i j)) w := by
  have h : j = 0 ∨ j = 1 ∨ j = 2 ∨ j = 3 ∨ j = 4 ∨ j = 5 := by omega
  rcases h with rfl | rfl | rfl | rfl | rfl | rfl <;> rfl

set_option maxRecDepth 100000 in
theorem then_calls (g h : Gr) (hg : GTab g) (hh : GTab h) (w : World) :
    Calls Try.prog 46 #[vG g, vG h] w fun e w' => e = .returned (vG (thenG g h)) ∧ Below w.heap.size w w' := by
  unfold vG
  have sg := Aside0.mk (cG_size hg)
  have sh := Aside0.mk (cG_size hh)
  have g0 := cG_0 g
  have h1 := cG_1 h
  generalize hcg : cG g = cg at g0 sg
  generalize hch : cG h = ch at h1 sh
  have HCG := Aside0.mk hcg
  have HCH := Aside0.mk hch
  clear hcg hch
  obtain ⟨co, hco⟩ : ∃ co, co = cG ⟨g.src, h.dst, List.replicate 36 0⟩ := ⟨_, rfl⟩
  have HCS := Aside0.mk (show co.size = 38 by rw [hco]; exact cG_size (g := ⟨g.src, h.dst, List.replicate 36 0⟩) zeros_tab)
  have HC1 := Aside0.mk (show co.all (·.oneCell') = true by rw [hco]; exact cG_one _)
  have HCO := Aside0.mk hco
  clear hco
  go_enter Try.func46, Try.ntmps46
  go_wp2_with (first | ((with_reducible refine gate_alloc (t := 81) rfl ?_); have h_ := HZ.out; clear h_; refine alloc_law (t := 81) rfl ?c ?hr ?_; (case hr => first | (go_simp; done) | (go_simp; rfl)); intro z2 hz2; have HZ2 := Aside0.mk (show z2.size = 38 by rw [hz2]; rfl); clear hz2) | ((with_reducible refine gate_alloc (t := 81) rfl ?_); refine alloc_law (t := 81) rfl ?c ?hr ?_; (case hr => first | (go_simp; done) | (go_simp; rfl)); intro zc hzc; have HZ := Aside0.mk (show zc.size = 38 by rw [hzc]; rfl); clear hzc) | ((with_reducible refine gate_build (t := 81) rfl ?_); refine value_law rfl (.agg co) ?hr ?_; (case hr => (rw [HCO.out]; go_simp; rfl)); intro ub hub; have HU := Aside0.mk hub; clear hub) | ((with_reducible refine gate_store (t := 81) (p := 5) rfl ?_); refine store_last rfl rfl rfl _ 81 _ co (by rfl) (by exact HU.out) (by simp only [World.size_alloc]) (by rw [HCS.out]; kernel_rfl) (by exact HZ2.out.trans HCS.out.symm) HC1.out ?_))
  have T0 := Aside0.mk (then_start w cg ch zc co)
  clear HZ2 z2 HC1
  clear g0 h1 sg sh
  generalize (((w.alloc (.cells cg 81)).alloc (.cells ch 81)).alloc (.cells zc 81)).alloc (.cells co 81) = W at T0 ⊢
  generalize w.heap.size + 1 + 1 + 1 = ob at T0 ⊢
  generalize w.heap.size + 1 + 1 = zb at T0 ⊢
  generalize w.heap.size + 1 = hb at T0 ⊢
  obtain ⟨gb, hgb⟩ : ∃ gb, gb = w.heap.size := ⟨_, rfl⟩
  go_loopg [16] 6 (fun kq v16 w' => ∃ (i : Nat), v16 = .int .i64 (i : Int) ∧ Aside0 (kq + i = 6) ∧ Aside0 (Th w w' w.heap.size hb zb ob cg ch zc (cG ⟨g.src, h.dst, rowI g.tab h.tab i⟩)))
  case atStart =>
    refine ⟨0, rfl, ⟨rfl⟩, ⟨?_⟩⟩
    have := T0.out
    rw [HCO.out] at this
    exact this
  case round =>
    clear T0 HCO HCS
    obtain ⟨i, rfl, HK, T1⟩ := hrel
    by_cases hlt : i < 6
    · have hdx : decide ((i : Int) < 6) = true := decide_eq_true (by omega)
      have c0 := blk_at T1.out.g (by rw [← HCG.out]; exact cG_at hg.len hlt (show 0 < 6 by omega))
      have c1 := blk_at T1.out.g (by rw [← HCG.out]; exact cG_at hg.len hlt (show 1 < 6 by omega))
      have c2 := blk_at T1.out.g (by rw [← HCG.out]; exact cG_at hg.len hlt (show 2 < 6 by omega))
      have c3 := blk_at T1.out.g (by rw [← HCG.out]; exact cG_at hg.len hlt (show 3 < 6 by omega))
      have c4 := blk_at T1.out.g (by rw [← HCG.out]; exact cG_at hg.len hlt (show 4 < 6 by omega))
      have c5 := blk_at T1.out.g (by rw [← HCG.out]; exact cG_at hg.len hlt (show 5 < 6 by omega))
      simp only [Nat.add_zero] at c0
      go_wp2
      clear c0 c1 c2 c3 c4 c5
      go_loopg [23] 6 (fun kq v23 w' => ∃ (j : Nat), v23 = .int .i64 (j : Int) ∧ Aside0 (kq + j = 6) ∧ Aside0 (Th w w' w.heap.size hb zb ob cg ch zc (cG ⟨g.src, h.dst, rowJ g.tab h.tab i (rowI g.tab h.tab i) j⟩)))
      case atStart => exact ⟨0, rfl, ⟨rfl⟩, T1⟩
      case round =>
        clear T1
        obtain ⟨j, rfl, HJ, T1⟩ := hrel
        by_cases hjl : j < 6
        · have hdj : decide ((j : Int) < 6) = true := decide_eq_true (by omega)
          have hix := index_row g.tab i j hjl
          have c0 := blk_at T1.out.h (by rw [← HCH.out]; exact cG_at hh.len hjl (show 0 < 6 by omega))
          have c1 := blk_at T1.out.h (by rw [← HCH.out]; exact cG_at hh.len hjl (show 1 < 6 by omega))
          have c2 := blk_at T1.out.h (by rw [← HCH.out]; exact cG_at hh.len hjl (show 2 < 6 by omega))
          have c3 := blk_at T1.out.h (by rw [← HCH.out]; exact cG_at hh.len hjl (show 3 < 6 by omega))
          have c4 := blk_at T1.out.h (by rw [← HCH.out]; exact cG_at hh.len hjl (show 4 < 6 by omega))
          have c5 := blk_at T1.out.h (by rw [← HCH.out]; exact cG_at hh.len hjl (show 5 < 6 by omega))
          simp only [Nat.add_zero] at c0
          go_wp2
          clear c0 c1 c2 c3 c4 c5 hix
          go_loopg [31] 6 (fun kq v31 w' => ∃ (k : Nat), v31 = .int .i64 (k : Int) ∧ Aside0 (kq + k = 6) ∧ Aside0 (Th w w' w.heap.size hb zb ob cg ch zc (cG ⟨g.src, h.dst, rowK g.tab h.tab i j (rowJ g.tab h.tab i (rowI g.tab h.tab i) j) k⟩)))
          case atStart => exact ⟨0, rfl, ⟨rfl⟩, T1⟩
          case round =>
            clear T1
            obtain ⟨k, rfl, HKK, T1⟩ := hrel
            by_cases hkl : k < 6
            · have hdk : decide ((k : Int) < 6) = true := decide_eq_true (by omega)
              have hix := index_row h.tab j k hkl
              obtain ⟨R, hR⟩ : ∃ R, R = rowK g.tab h.tab i j (rowJ g.tab h.tab i (rowI g.tab h.tab i) j) k := ⟨_, rfl⟩
              have HRL := Aside0.mk (show R.length = 36 by rw [hR, rowK_len, rowJ_len, rowI_len])
              have HST := Aside0.mk (show rowK g.tab h.tab i j (rowJ g.tab h.tab i (rowI g.tab h.tab i) j) (k + 1) = stepK g.tab h.tab i j R k by rw [rowK_succ, hR])
              rw [← hR] at T1
              clear hR
              by_cases hn : 0 < tat g.tab i j
              · by_cases hm : 0 < tat h.tab j k
                · have HST := Aside0.mk (HST.out.trans (show _ = R.set (6 * i + k) (max (max (tat R i k) (tat g.tab i j)) (tat h.tab j k)) by unfold stepK; rw [if_pos ⟨hn, hm⟩]))
                  have hdn : decide (0 < tat g.tab i j) = true := decide_eq_true hn
                  have hdm : decide (0 < tat h.tab j k) = true := decide_eq_true hm
                  go_wp2
                  clear hdn hdm hdk hix hn hm
                  have q0 := blk_at T1.out.o (cG_at (g := ⟨g.src, h.dst, R⟩) HRL.out hlt hkl)
                  have q1 := blk_frozen T1.out.o (2 + i * 6 + k)
                  have b1 : (i : Int) < 6 := by omega
                  have b2 : (k : Int) < 6 := by omega
                  have b3 : (0 : Int) ≤ (i : Int) := by omega
                  have b4 : (0 : Int) ≤ (k : Int) := by omega
                  have hmx := max3_run (tat R i k) (tat g.tab i j) (tat h.tab j k)
                  go_region
                  clear q0 q1 b1 b2 b3 b4 hmx
                  go_wp2
                  go_roundg (6 - k - 1)
                  case measure => have := HKK.out; omega
                  case rel => exact ⟨k + 1, by go_num, ⟨by have := HKK.out; omega⟩, ⟨by rw [HST.out, Int.max_assoc, ← cG_set ⟨g.src, h.dst, R⟩ i k]; exact (T1.out.set _ _).drew1⟩⟩
                · have HST := Aside0.mk (HST.out.trans (show _ = R by unfold stepK; rw [if_neg (fun h => hm h.2)]))
                  have hdn : decide (0 < tat g.tab i j) = true := decide_eq_true hn
                  have hdm : decide (0 < tat h.tab j k) = false := decide_eq_false hm
                  go_wp2
                  go_roundg (6 - k - 1)
                  case measure => have := HKK.out; omega
                  case rel => exact ⟨k + 1, by go_num, ⟨by have := HKK.out; omega⟩, ⟨by rw [HST.out]; exact T1.out⟩⟩
              · have HST := Aside0.mk (HST.out.trans (show _ = R by unfold stepK; rw [if_neg (fun h => hn h.1)]))
                have hdn : decide (0 < tat g.tab i j) = false := decide_eq_false hn
                go_wp2
                go_roundg (6 - k - 1)
                case measure => have := HKK.out; omega
                case rel => exact ⟨k + 1, by go_num, ⟨by have := HKK.out; omega⟩, ⟨by rw [HST.out]; exact T1.out⟩⟩
            · have hdk : decide ((k : Int) < 6) = false := decide_eq_false (by omega)
              obtain rfl : k = 6 := by have := HKK.out; omega
              go_wp2
              go_roundg (6 - j - 1)
              case measure => have := HJ.out; omega
              case rel => exact ⟨j + 1, by go_num, ⟨by have := HJ.out; omega⟩, ⟨by rw [rowJ_succ]; exact T1.out⟩⟩
        · have hdj : decide ((j : Int) < 6) = false := decide_eq_false (by omega)
          obtain rfl : j = 6 := by have := HJ.out; omega
          go_wp2
          go_roundg (6 - i - 1)
          case measure => have := HK.out; omega
          case rel => exact ⟨i + 1, by go_num, ⟨by have := HK.out; omega⟩, ⟨by rw [rowI_succ]; exact T1.out⟩⟩
    · have hdx : decide ((i : Int) < 6) = false := decide_eq_false (by omega)
      obtain rfl : i = 6 := by have := HK.out; omega
      have HCC := Aside0.mk (cG_size (g := thenG g h) (thenG_tab hg hh))
      have HC1 := Aside0.mk (cG_one (thenG g h))
      have T2 := Aside0.mk (show Th w wr w.heap.size hb zb ob cg ch zc (cG (thenG g h)) from T1.out)
      have HCV := Aside0.mk (show vG (thenG g h) = .agg (cG (thenG g h)) from rfl)
      clear T1
      generalize cG (thenG g h) = ct at HCC HC1 T2 HCV
      go_wp2_with (first | ((with_reducible refine gate_load (t := 81) (x := .tmp 5) rfl ?_); refine load_whole rfl rfl ob 81 ct _ (by rfl) T2.out.o Try.underlying81 rfl (by rw [HCC.out]; kernel_rfl) ?_) | ((with_reducible refine gate_store (t := 81) (p := 4) rfl ?_); refine store_whole rfl rfl rfl zb 81 zc ct (by rfl) (by rfl) T2.out.z (by rw [HCC.out]; kernel_rfl) (HZ.out.trans HCC.out.symm) HC1.out ?_))
      refine bodyPost_ret (v := .agg ct) (results_cell1 rfl _ (by rfl) (setRow_at wr zb ct zc 81 T2.out.z) rfl Try.underlying81 (by rw [HCC.out]; kernel_rfl)) rfl ?_
      exact ⟨by show _ = Ending.returned (vG (thenG g h)); rw [HCV.out], below_setRow' T2.out.below T2.out.ge.1⟩
end Go.Proofs.Ytiepinfcndefhaa.S
