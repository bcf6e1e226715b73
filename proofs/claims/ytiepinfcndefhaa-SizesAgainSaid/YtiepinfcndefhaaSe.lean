/- The first bad graph of a closure: the walks of IndexFunc and bad. No condition. -/
import Derived.Test.YtiepinfcndefhaaSd
namespace Go.Proofs.Ytiepinfcndefhaa.S
open Go.RowKit Go.Proofs.YtiepinfcndefhaaW.PrintWords Go.Proofs.YtiepinfcndefhaaW.PrintLast Go.Proofs.YtiepinfcndefhaaW.PrintMore
set_option linter.unusedVariables false
set_option linter.unusedSimpArgs false

/-- A graph's kind: 38 cells. -/
def kGr : Kd Gr where
  sz := 38
  E := []
  K := fun _ g cs => cs = (cG g).toList ∧ GOk g
  M := fun _ _ _ g cs => cs = (cG g).toList ∧ GOk g
  K_len := fun h => by rw [h.1, Array.length_toList, cG_size h.2.tab]
  K_one := by
    rintro w g cs ⟨rfl, _⟩ u hu
    exact (Array.all_eq_true_iff_forall_mem.1 (cG_one g)) u (by simpa using hu)
  K_below := fun _ h => h
  K_of_M := fun h => h
  M_mono := fun _ h => h
  M_bound := fun h => h
  M_move := fun _ h => h
  M_lower := fun _ h => h
def kMk : Kd Mk := Kd.pair kGr (Kd.slice 3 (Kd.int .i64))
theorem cells_run {P : Program} {W : World} {o : Oper} {a : Act} {ty : TypeId} {x : Operand} (ho : o.op = .load ty x) {ad : Addr} {cs : Array Value} {d : TypeDesc} (hx : a.eval x = .pointer (some ad)) (hs : ∀ j v, cs[j]? = some v → W.cell? (ad.add j) = some v)
    (hd : (match d with | .struct _ | .array _ _ => true | _ => false) = true) (hu : P.underlying ty = some d) (hi : (P.info? ty).map (·.size) = some cs.size) : (execOp a.eval o).run P W = .ok (.value (.agg cs)) W := by
  have hl : (loadCells ad cs.toList.length).run P W = .ok cs.toList.toArray W := run_loadCells_list (P := P) W ad cs.toList (fun j v hv => hs j v (by simpa using hv))
  cases hq : P.info? ty with
  | none => simp [hq] at hi
  | some i =>
    have hsz : i.size = cs.size := by simpa [hq] using hi
    have hr : (loadVar ty ad).run P W = .ok (.agg cs) W := by
      simp only [Array.length_toList, Array.toArray_toList] at hl
      cases d <;> simp at hd <;> simp [loadVar, isAgg, sizeOf, typeInfo, hq, run_underlying hu, Sem.run_bind, Result.andThen, hsz, hl]
    simp [execOp, ho, hx, Instr.loadAt, Instr.sureAddr, Sem.run_bind, Sem.run_pure, Result.andThen, hr]
theorem cM_size {g : Gr} (hg : GOk g) (v : Value) : (cM g v).size = 39 := by simp [cM, cG_size hg.tab]
/-- An element of the closure, read. -/
theorem mk_get {w : World} {A : Option Addr} {l : List Mk} (h : kMk.C w A l.length l) (i : Nat) (hi : i < l.length) : ∃ ad v, A = some ad ∧ (GOk l[i].1 ∧ v.oneCell' = true) ∧ ∀ j u, (cM l[i].1 v)[j]? = some u → w.cell? (ad.add (i * 39 + j)) = some u := by
  obtain ⟨ad, c, e, _, hk, hc⟩ := Kd.C_get h (⟨⟨.empty, .empty, []⟩, []⟩ : Mk) (i : Int) (by omega) (by omega)
  rw [Int.toNat_natCast] at hk hc
  rw [show l.getD i (⟨⟨.empty, .empty, []⟩, []⟩ : Mk) = l[i] by rw [List.getD_eq_getElem?_getD, List.getElem?_eq_getElem hi]; rfl] at hk
  obtain ⟨c0, c1, rfl, ⟨rfl, hg⟩, A1, cp, rfl, _⟩ := hk
  refine ⟨ad, .slice A1 l[i].2.length cp, e, ⟨hg, rfl⟩, fun j u hu => ?_⟩
  refine hc j u ?_
  have : (cM l[i].1 (.slice A1 l[i].2.length cp)).toList = (cG l[i].1).toList ++ [.slice A1 l[i].2.length cp] := by simp [cM]
  rw [← this]
  simpa using hu
def idxB : List Mk → Nat → Int
  | [], _ => -1
  | m :: l, i => if badB m.1 = true then (i : Int) else idxB l (i + 1)
theorem idxB_step {l : List Mk} {i : Nat} (hi : i < l.length) : idxB (l.drop i) i = if badB l[i].1 = true then (i : Int) else idxB (l.drop (i + 1)) (i + 1) := by
  rw [List.drop_eq_getElem_cons hi]
  rfl
set_option maxRecDepth 100000 in
theorem index_calls (A : Option Addr) (c : Nat) (l : List Mk) (w : World) (h : kMk.C w A l.length l) (hl : l.length ≤ 1000000) :
    Calls Try.prog 67 #[.slice A l.length c, .func (.func 68) #[] #[]] w fun e w' => e = .returned (.int .i64 (idxB l 0)) ∧ Below w.heap.size w w' := by
  have HC := Aside0.mk h
  have HLL := Aside0.mk hl
  clear h hl
  go_enter Try.func67, Try.ntmps67
  go_wp2
  go_loopg [8] l.length (fun kq v8 w' => ∃ (i : Nat), v8 = .int .i64 (i : Int) ∧ Aside0 (kq + i = l.length) ∧ Aside0 (idxB l 0 = idxB (l.drop i) i) ∧ Aside0 (Below w.heap.size w w'))
  case atStart => exact ⟨0, rfl, ⟨rfl⟩, ⟨rfl⟩, ⟨Below.refl _ _⟩⟩
  case round =>
    obtain ⟨i, rfl, HK, HI, HB⟩ := hrel
    by_cases hlt : i < l.length
    · have hdx : decide ((i : Int) < (l.length : Int)) = true := decide_eq_true (by omega)
      obtain ⟨ad, v, e, ⟨hg, _⟩, hc⟩ := mk_get (Kd.C_below HC.out HB.out) i hlt
      subst e
      have HX := Aside0.mk (fun w' => bad1_calls l[i].1 hg v w')
      have HCC := Aside0.mk hc
      have HS := Aside0.mk (cM_size hg v)
      have HN := Aside0.mk (idxB_step hlt)
      clear hc hg
      generalize cM l[i].1 v = cm at HX HCC HS
      generalize hbb : badB l[i].1 = bb at HX HN
      clear hbb
      have hi0 : (i : Int) < (l.length : Int) := by omega
      have hib : wrap64 ((i : Int) + 1) = (i : Int) + 1 := by have := HLL.out; unfold wrap64; omega
      cases bb with
      | true =>
        have HN2 := Aside0.mk (HN.out.trans (if_pos rfl))
        go_wp2_with (first | ((with_reducible refine gate_load (t := 83) (x := .tmp 14) rfl ?_); refine run_law (by rfl) (.agg cm) (cells_run (ty := 83) (x := .tmp 14) (ad := ad.add (i * 39)) (cs := cm) ?h1 ?h2 ?hs ?h3 Try.underlying83 ?h4) ?_; (case h1 => rfl); (case h2 => rfl); (case hs => exact fun j v hv => by rw [Addr.add_add]; exact HCC.out j v hv); (case h3 => rfl); (case h4 => rw [HS.out]; kernel_rfl)) | (go_at_call 68; refine (HX.out _).mono ?_; rintro e w5 ⟨rfl, hb5⟩; have HB2 := Aside0.mk (below_step HB.out hb5); clear hb5))
        go_ret
        exact ⟨by rw [HI.out, HN2.out]; rfl, HB2.out⟩
      | false =>
        have HN2 := Aside0.mk (HN.out.trans (if_neg (by decide)))
        go_wp2_with (first | ((with_reducible refine gate_load (t := 83) (x := .tmp 14) rfl ?_); refine run_law (by rfl) (.agg cm) (cells_run (ty := 83) (x := .tmp 14) (ad := ad.add (i * 39)) (cs := cm) ?h1 ?h2 ?hs ?h3 Try.underlying83 ?h4) ?_; (case h1 => rfl); (case h2 => rfl); (case hs => exact fun j v hv => by rw [Addr.add_add]; exact HCC.out j v hv); (case h3 => rfl); (case h4 => rw [HS.out]; kernel_rfl)) | (go_at_call 68; refine (HX.out _).mono ?_; rintro e w5 ⟨rfl, hb5⟩; have HB2 := Aside0.mk (below_step HB.out hb5); clear hb5))
        go_roundg (l.length - i - 1)
        case measure => have := HK.out; omega
        case rel => exact ⟨i + 1, by go_num, ⟨by have := HK.out; omega⟩, ⟨HI.out.trans HN2.out⟩, HB2⟩
    · have hdx : decide ((i : Int) < (l.length : Int)) = false := decide_eq_false (by omega)
      have HE := Aside0.mk (HI.out.trans (show idxB (l.drop i) i = -1 by rw [List.drop_eq_nil_of_le (by omega)]; rfl))
      go_wp2
      go_ret
      exact ⟨by rw [HE.out]; rfl, HB.out⟩
theorem idxB_iff : ∀ (l : List Mk) (i : Nat), (idxB l i = -1 ∧ l.any (fun m => badB m.1) = false) ∨ (l.any (fun m => badB m.1) = true ∧ ∃ j, idxB l i = ((i + j : Nat) : Int) ∧ j < l.length)
  | [], i => .inl ⟨rfl, rfl⟩
  | m :: l, i => by
    unfold idxB
    by_cases h : badB m.1 = true
    · right
      rw [if_pos h]
      exact ⟨by simp [h], 0, rfl, by simp⟩
    · rw [if_neg h]
      have h' : badB m.1 = false := Bool.eq_false_iff.mpr h
      rcases idxB_iff l (i + 1) with ⟨h1, h2⟩ | ⟨h1, j, h2, h3⟩
      · exact .inl ⟨h1, by simp only [List.any_cons, h', h2, Bool.or_false]⟩
      · exact .inr ⟨by simp only [List.any_cons, h', h1, Bool.or_true], j + 1, by rw [h2]; congr 1; omega, by simpa using h3⟩
theorem results_cell2 {fn : Func} {p q : Tmp} {ty t : TypeId} {P : Program} {W : World} {b : Nat} {cs : Array Value} {d : TypeDesc} (h : fn.results = #[.cell p ty, .tmp q]) (tmps : Array Value) (hp : tmps.getD p undef = .pointer (some ⟨b, 0, none⟩)) (hb : W.heap[b]? = some (.cells cs t))
    (hd : (match d with | .struct _ | .array _ _ => true | _ => false) = true) (hu : P.underlying ty = some d) (hi : (P.info? ty).map (·.size) = some cs.size) {v : Value} (hq : tmps.getD q undef = v) : (results fn tmps).run P W = .ok (.tuple #[.agg cs, v]) W := by
  have hr := run_loadVar_row (P := P) W b t ty cs (0, 0) d hb hu (by revert hd; cases d <;> simp) hi
  rw [results_cell_tmp h, hp, hq]
  simp [asAddr, Result.andThen, hr]
/-- What a made value is: 39 cells. -/
structure CM (cs : Array Value) : Prop where
  size : cs.size = 39
  one : cs.all (·.oneCell') = true
theorem zero83 : ∃ cz : Array Value, CM cz ∧ (∀ w, (zeroValue 83).run Try.prog w = .ok (.agg cz) w) := by
  have h : (Try.prog.info? 83).map (fun i => (i.zero, i.size)) = some (some (.agg ((cG ⟨.empty, .empty, List.replicate 36 0⟩).push (.slice none 0 0))), 39) := by kernel_rfl
  refine ⟨_, ⟨by simp [cG], ?_⟩, (zero_of_info h).1⟩
  rw [Array.all_push, cG_one]
  rfl
section
variable {P : Program} {ops : Array Oper} {rest : List Oper} {o : Oper} {a : Act} {Q : Exit → Act → World → Prop} {W : World}
theorem alloc_zero (hgd : o.guard = none) {t : TypeId} (ho : o.op = .alloc t) (cz : Array Value) (hz : ∀ w, (zeroValue t).run P w = .ok (.agg cz) w) (h : wpList P ops Q rest (a.put o.dst (.pointer (some ⟨W.heap.size, 0, none⟩))) (W.alloc (.cells cz t))) : wpList P ops Q (o :: rest) a W := by
  refine alloc_law hgd (t := t) cz ?_ (fun u hu => by subst hu; exact h)
  simp [execOp, ho, hz, go_sem, Value.cells, Result.andThen]
end
set_option maxRecDepth 100000 in
theorem bad_calls (A : Option Addr) (c : Nat) (l : List Mk) (w : World) (h : kMk.C w A l.length l) (hl : l.length ≤ 1000000) :
    Calls Try.prog 40 #[.slice A l.length c] w fun e w' => ∃ cs, e = .returned (.tuple #[.agg cs, .bool (l.any fun m => badB m.1)]) ∧ CM cs ∧ Below w.heap.size w w' := by
  obtain ⟨cz, hz, hzr⟩ := zero83
  have HZ := Aside0.mk hz
  have HC := Aside0.mk h
  have HX := Aside0.mk (fun w' (hw : Below w.heap.size w w') => index_calls A c l w' (Kd.C_below h hw) hl)
  have HI := idxB_iff l 0
  go_enter Try.func40, Try.ntmps40
  rcases HI with ⟨hi, ha⟩ | ⟨ha, j, hi, hj⟩
  · rw [hi] at HX
    have HA := Aside0.mk ha
    clear hi ha
    go_wp2_with (first | ((with_reducible refine gate_alloc (t := 83) rfl ?_); refine alloc_zero rfl rfl cz hzr ?_) | (go_at_call 67; refine (HX.out _ (below_alloc (Below.refl _ _) _)).mono ?_; rintro e w5 ⟨rfl, hb5⟩; have Z0 := Aside0.mk (blk_below (blk_new w (.cells cz 83)) hb5); have HB := Aside0.mk (below_step (below_alloc (Below.refl w.heap.size w) (.cells cz 83)) hb5); clear hb5) | ((with_reducible refine gate_build (t := 83) rfl ?_); refine value_law rfl (.agg cz) ?hr ?_; (case hr => first | (go_simp; done) | (go_simp; rfl)); intro ub hub; have HU := Aside0.mk hub; clear hub) | ((with_reducible refine gate_store (t := 83) (p := 2) rfl ?_); refine store_whole rfl rfl rfl w.heap.size 83 cz cz (by rfl) (by exact HU.out) Z0.out (by rw [HZ.out.size]; kernel_rfl) rfl HZ.out.one ?_; have HBS := Aside0.mk (below_setRow' (cs := cz) HB.out (Nat.le_refl w.heap.size)); have ZS := Aside0.mk (setRow_at _ w.heap.size cz cz 83 Z0.out)))
    refine bodyPost_ret (v := .tuple #[.agg cz, .bool false]) (results_cell2 rfl _ (by rfl) ZS.out rfl Try.underlying83 (by rw [HZ.out.size]; kernel_rfl) (by rfl)) rfl ?_
    exact ⟨cz, by rw [HA.out], HZ.out, HBS.out⟩
  · obtain ⟨ad, v, e, ⟨hg, ho⟩, hc⟩ := mk_get HC.out j hj
    subst e
    rw [hi, Nat.zero_add] at HX
    have HA := Aside0.mk ha
    have HCC := Aside0.mk hc
    have HM := Aside0.mk (show CM (cM l[j].1 v) from ⟨cM_size hg v, by
      unfold cM
      rw [Array.all_push, cG_one]
      simp [ho]⟩)
    clear hi ha hc hg ho
    generalize cM l[j].1 v = cm at HCC HM
    have hj0 : (j : Int) < (l.length : Int) := by omega
    have hjd : decide ((j : Int) < 0) = false := decide_eq_false (by omega)
    go_wp2_with (first | ((with_reducible refine gate_alloc (t := 83) rfl ?_); refine alloc_zero rfl rfl cz hzr ?_) | (go_at_call 67; refine (HX.out _ (below_alloc (Below.refl _ _) _)).mono ?_; rintro e w5 ⟨rfl, hb5⟩; have Z0 := Aside0.mk (blk_below (blk_new w (.cells cz 83)) hb5); have HB := Aside0.mk (below_step (below_alloc (Below.refl w.heap.size w) (.cells cz 83)) hb5); clear hb5) | ((with_reducible refine gate_load (t := 83) (x := .tmp 12) rfl ?_); refine run_law (by rfl) (.agg cm) (cells_run (ty := 83) (x := .tmp 12) (ad := ad.add (j * 39)) (cs := cm) ?h1 ?h2 ?hs ?h3 Try.underlying83 ?h4) ?_; (case h1 => rfl); (case h2 => rfl); (case hs => exact fun k u hu => by rw [Addr.add_add]; exact pw_cell_below HB.out (HCC.out k u hu)); (case h3 => rfl); (case h4 => rw [HM.out.size]; kernel_rfl)) | ((with_reducible refine gate_store (t := 83) (p := 2) rfl ?_); refine store_whole rfl rfl rfl w.heap.size 83 cz cm (by rfl) (by rfl) Z0.out (by rw [HM.out.size]; kernel_rfl) (HZ.out.size.trans HM.out.size.symm) HM.out.one ?_; have HBS := Aside0.mk (below_setRow' (cs := cm) HB.out (Nat.le_refl w.heap.size)); have ZS := Aside0.mk (setRow_at _ w.heap.size cm cz 83 Z0.out)))
    refine bodyPost_ret (v := .tuple #[.agg cm, .bool true]) (results_cell2 rfl _ (by rfl) ZS.out rfl Try.underlying83 (by rw [HM.out.size]; kernel_rfl) (by rfl)) rfl ?_
    exact ⟨cm, by rw [HA.out], HM.out, HBS.out⟩
end Go.Proofs.Ytiepinfcndefhaa.S
