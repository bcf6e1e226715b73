/- The reference's Valid, normal, Normal, and the program's Normal: the walks. No condition. -/
import Derived.Test.YtiepinfcndefhaaUb
import Derived.Test.YtiepinfcndefhaaTf
namespace Go.Proofs.Ytiepinfcndefhaa.S
open Go.RowKit Go.Proofs.YtiepinfcndefhaaW.PrintWords Go.Proofs.YtiepinfcndefhaaW.PrintLast Go.Proofs.YtiepinfcndefhaaW.PrintMore
set_option linter.unusedVariables false
set_option linter.unusedSimpArgs false

theorem store_run {P : Program} {W : World} {o : Oper} {a : Act} {ty : TypeId} {x v : Operand} (ho : o.op = .store ty x v) (hN : o.dst = none) (b : Nat) (t : TypeId) (old cs : Array Value) (hx : a.eval x = .pointer (some ⟨b, 0, none⟩)) (hv : a.eval v = .agg cs) (hb : W.heap[b]? = some (.cells old t))
    (hi : (P.info? ty).map (·.size) = some cs.size) (hs : old.size = cs.size) (h1 : cs.all (·.oneCell') = true) : (execOp a.eval o).run P W = .ok .skip (W.setRow b cs) := by
  have hr := run_storeVar_row (P := P) W b t ty old cs hb hi hs h1
  simp [execOp, ho, hx, hv, Instr.storeAt, Instr.sureAddr, Sem.run_bind, Sem.run_pure, Result.andThen, hr]
def valC (c : Cl) : Bool := !(decide (c.src.size = 0) || decide (c.dst.size = 0)) && c.arcs.all okA
theorem readC_val (c : Cl) : readC c = if valC c = true then some ⟨c.src, c.dst, tabC c.arcs⟩ else none := by
  unfold readC valC tabC
  by_cases h1 : c.src.size = 0 ∨ c.dst.size = 0
  · rw [if_pos h1, if_neg]
    rcases h1 with h | h <;> simp [h]
  · rw [if_neg h1]
    simp only [not_or] at h1
    simp only [decide_eq_false h1.1, decide_eq_false h1.2, Bool.or_self, Bool.not_false, Bool.true_and]
set_option maxHeartbeats 4000000 in
set_option maxRecDepth 100000 in
theorem valid_calls (A : Option Addr) (cp : Nat) (c : Cl) (w : World) (h : kAc.C w A c.arcs.length c.arcs) :
    Calls Try.prog 48 #[.agg #[.string c.src, .string c.dst, .slice A c.arcs.length cp]] w fun e w' => e = .returned (.bool (valC c)) ∧ Below w.heap.size w w' := by
  obtain ⟨src, dst, arcs⟩ := c
  have HC := Aside0.mk (show kAc.C w A arcs.length arcs from h)
  have HLL := Aside0.mk (show arcs.length ≤ 9223372036854775807 from h.2.1)
  have HB0 := Aside0.mk (below_alloc (Below.refl w.heap.size w) (.cells #[.string src, .string dst, .slice A arcs.length cp] 34))
  have HC0 := Aside0.mk (blk_new w (.cells #[.string src, .string dst, .slice A arcs.length cp] 34))
  clear h
  go_enter Try.func48, Try.ntmps48
  by_cases hs1 : src.size = 0
  · have HR := Aside0.mk (show valC ⟨src, dst, arcs⟩ = false by simp [valC, hs1])
    obtain rfl := empty_of hs1
    clear hs1
    go_wp2
    go_ret
    exact ⟨by rw [HR.out]; rfl, HB0.out⟩
  have e1 := empty_not hs1
  by_cases hs2 : dst.size = 0
  · have HR := Aside0.mk (show valC ⟨src, dst, arcs⟩ = false by simp [valC, hs2])
    obtain rfl := empty_of hs2
    clear hs1 hs2
    go_wp2
    go_ret
    exact ⟨by rw [HR.out]; rfl, HB0.out⟩
  have e3 := empty_not hs2
  have HR := Aside0.mk (show valC ⟨src, dst, arcs⟩ = arcs.all okA by simp [valC, hs1, hs2])
  clear hs1 hs2
  go_wp2
  clear e1 e3
  generalize w.alloc (.cells #[.string src, .string dst, .slice A arcs.length cp] 34) = W0 at HB0 HC0 ⊢
  go_loopg [3] arcs.length (fun kq v3 w' => ∃ (i : Nat), v3 = .int .i64 (i : Int) ∧ Aside0 (kq + i = arcs.length) ∧ Aside0 (arcs.all okA = (arcs.drop i).all okA) ∧ Aside0 (Below w.heap.size w w') ∧ Aside0 (w'.heap[w.heap.size]? = some (.cells #[.string src, .string dst, .slice A arcs.length cp] 34 (0, 0))))
  case atStart => exact ⟨0, rfl, ⟨rfl⟩, ⟨rfl⟩, HB0, HC0⟩
  case round =>
    clear HB0 HC0
    obtain ⟨i, rfl, HK, HN, HB1, HC1⟩ := hrel
    have y2 := blk_at HC1.out (k := 2) rfl
    by_cases hlt : i < arcs.length
    · have hdx : decide ((i : Int) < (arcs.length : Int)) = true := decide_eq_true (by omega)
      have hi0 : (i : Int) < (arcs.length : Int) := by omega
      have hib : wrap64 ((i : Int) + 1) = (i : Int) + 1 := by have := HLL.out; unfold wrap64; omega
      obtain ⟨ad, ea, hqa⟩ := ac_cells (Kd.C_below HC.out HB1.out) i hlt
      have HN2 := Aside0.mk (HN.out.trans (show (arcs.drop i).all okA = (okA arcs[i] && (arcs.drop (i + 1)).all okA) by rw [List.drop_eq_getElem_cons hlt]; rfl))
      have HLT := Aside0.mk hlt
      generalize arcs[i] = x at hqa HN2
      obtain ⟨xa, xb, xs⟩ := x
      dsimp only at hqa
      obtain ⟨q0, q1, q2⟩ := hqa wr (Below.refl _ _)
      have HB2 := Aside0.mk (below_step HB1.out (below_alloc (Below.refl wr.heap.size wr) (.cells #[.int .i64 xa, .int .i64 xb, .bool xs] 24)))
      have HC2 := Aside0.mk (blk_below HC1.out (below_alloc (Below.refl wr.heap.size wr) (.cells #[.int .i64 xa, .int .i64 xb, .bool xs] 24)))
      clear hqa HN
      subst ea
      by_cases h1 : xa < 0
      · have d1 : decide (xa < 0) = true := decide_eq_true h1
        have HX := Aside0.mk (show okA ⟨xa, xb, xs⟩ = false by simp [okA]; omega)
        clear h1
        go_wp2
        go_ret
        exact ⟨by rw [HR.out, HN2.out, HX.out]; rfl, HB2.out⟩
      have d1 : decide (xa < 0) = false := decide_eq_false h1
      by_cases h2 : 6 ≤ xa
      · have d2 : decide (6 ≤ xa) = true := decide_eq_true h2
        have HX := Aside0.mk (show okA ⟨xa, xb, xs⟩ = false by simp [okA]; omega)
        clear h1 h2
        go_wp2
        go_ret
        exact ⟨by rw [HR.out, HN2.out, HX.out]; rfl, HB2.out⟩
      have d2 : decide (6 ≤ xa) = false := decide_eq_false h2
      by_cases h3 : xb < 0
      · have d3 : decide (xb < 0) = true := decide_eq_true h3
        have HX := Aside0.mk (show okA ⟨xa, xb, xs⟩ = false by simp [okA]; omega)
        clear h1 h2 h3
        go_wp2
        go_ret
        exact ⟨by rw [HR.out, HN2.out, HX.out]; rfl, HB2.out⟩
      have d3 : decide (xb < 0) = false := decide_eq_false h3
      by_cases h4 : 6 ≤ xb
      · have d4 : decide (6 ≤ xb) = true := decide_eq_true h4
        have HX := Aside0.mk (show okA ⟨xa, xb, xs⟩ = false by simp [okA]; omega)
        clear h1 h2 h3 h4
        go_wp2
        go_ret
        exact ⟨by rw [HR.out, HN2.out, HX.out]; rfl, HB2.out⟩
      have d4 : decide (6 ≤ xb) = false := decide_eq_false h4
      have HX := Aside0.mk (show okA ⟨xa, xb, xs⟩ = true by simp [okA]; omega)
      clear h1 h2 h3 h4
      go_wp2
      go_roundg (arcs.length - i - 1)
      case measure => have := HK.out; omega
      case rel => exact ⟨i + 1, by go_num, ⟨by have := HK.out; have := HLT.out; omega⟩, ⟨by rw [HN2.out, HX.out, Bool.true_and]⟩, HB2, HC2⟩
    · have hdx : decide ((i : Int) < (arcs.length : Int)) = false := decide_eq_false (by omega)
      have HE := Aside0.mk (HN.out.trans (show (arcs.drop i).all okA = true by rw [List.drop_eq_nil_of_le (by omega)]; rfl))
      go_wp2
      go_ret
      exact ⟨by rw [HR.out, HE.out]; rfl, HB1.out⟩
set_option maxHeartbeats 4000000 in
set_option maxRecDepth 100000 in
theorem normal_calls (A : Option Addr) (cp : Nat) (c : Cl) (w : World) (h : kAc.C w A c.arcs.length c.arcs) (hok : c.arcs.all okA = true) :
    Calls Try.prog 43 #[.agg #[.string c.src, .string c.dst, .slice A c.arcs.length cp]] w fun e w' => ∃ v, e = .returned v ∧ CallOut w' w.heap.size (callG ⟨c.src, c.dst, tabC c.arcs⟩) v ∧ Below w.heap.size w w' := by
  have HTB := Aside0.mk (fun (W : World) (hb : Below w.heap.size w W) => tabled_calls A cp c W (Kd.C_below h hb) hok)
  have HC : Aside0 (Blk ((w.alloc (.cells #[.string c.src, .string c.dst, .slice A c.arcs.length cp] 34)).alloc (.cells #[.string ⟨#[]⟩, .string ⟨#[]⟩, .slice none 0 0] 34)) w.heap.size c A cp) := ⟨blk_below (blk_new w _) (below_alloc (Below.refl _ _) _)⟩
  have HB0 : Aside0 (Below w.heap.size w ((w.alloc (.cells #[.string c.src, .string c.dst, .slice A c.arcs.length cp] 34)).alloc (.cells #[.string ⟨#[]⟩, .string ⟨#[]⟩, .slice none 0 0] 34))) := ⟨below_step (below_alloc (Below.refl _ _) _) (below_alloc (Below.refl _ _) _)⟩
  have HZ : Aside0 (((w.alloc (.cells #[.string c.src, .string c.dst, .slice A c.arcs.length cp] 34)).alloc (.cells #[.string ⟨#[]⟩, .string ⟨#[]⟩, .slice none 0 0] 34)).heap[w.heap.size + 1]? = some (.cells #[.string ⟨#[]⟩, .string ⟨#[]⟩, .slice none 0 0] 34 (0, 0))) := ⟨by
    have h1 := blk_new (w.alloc (.cells #[.string c.src, .string c.dst, .slice A c.arcs.length cp] 34)) (.cells #[.string ⟨#[]⟩, .string ⟨#[]⟩, .slice none 0 0] 34)
    rw [World.size_alloc] at h1
    exact h1⟩
  clear h hok
  go_enter Try.func43, Try.ntmps43
  go_wp2
  generalize (w.alloc (.cells #[.string c.src, .string c.dst, .slice A c.arcs.length cp] 34)).alloc (.cells #[.string ⟨#[]⟩, .string ⟨#[]⟩, .slice none 0 0] 34) = W0 at HC HB0 HZ ⊢
  refine start_ (n := 8) (S := fun w' => Below W0.heap.size W0 w') (ds := [7]) #[false, false, false, false, false, false, false, false] (by kernel_rfl) rfl rfl (below_drew1 (Below.refl _ _)) (fun hHeld => ?_)
  refine pure_ (i := 0) (N := some 3) (v := ?_) (a' := ?_) #[true, false, false, false, false, false, false, false] rfl rfl (by kernel_rfl) (fun _ _ _ h => h) (Or.inl ⟨by rfl, ?_⟩) ?_ ?_
  rotate_left
  · intro w'
    go_simp
    with_reducible rfl
  rotate_left
  · simp only [Act.put, List.setIfInBounds_toArray, List.set_cons_zero, List.set_cons_succ, i64_w, i32_w]
    rfl
  refine take_ (i := 1) (N := some 4) (v := ?_) (a' := ?_) #[true, true, false, false, false, false, false, false] rfl rfl (by kernel_rfl) (fun _ _ _ h => h) (Or.inl ⟨by rfl, ?_⟩) hHeld ?_ ?_
  rotate_left
  · rintro w' s0
    obtain ⟨y0, y1, y2⟩ := Blk.cells (HC.out.go s0)
    go_simp
    with_reducible rfl
  rotate_left
  · simp only [Act.put, List.setIfInBounds_toArray, List.set_cons_zero, List.set_cons_succ, i64_w, i32_w]
    rfl
  refine pure_ (i := 2) (N := some 5) (v := ?_) (a' := ?_) #[true, true, true, false, false, false, false, false] rfl rfl (by kernel_rfl) (fun _ _ _ h => h) (Or.inl ⟨by rfl, ?_⟩) ?_ ?_
  rotate_left
  · intro w'
    go_simp
    with_reducible rfl
  rotate_left
  · simp only [Act.put, List.setIfInBounds_toArray, List.set_cons_zero, List.set_cons_succ, i64_w, i32_w]
    rfl
  refine take_ (i := 3) (N := some 6) (v := ?_) (a' := ?_) #[true, true, true, true, false, false, false, false] rfl rfl (by kernel_rfl) (fun _ _ _ h => h) (Or.inl ⟨by rfl, ?_⟩) hHeld ?_ ?_
  rotate_left
  · rintro w' s0
    obtain ⟨y0, y1, y2⟩ := Blk.cells (HC.out.go s0)
    go_simp
    with_reducible rfl
  rotate_left
  · simp only [Act.put, List.setIfInBounds_toArray, List.set_cons_zero, List.set_cons_succ, i64_w, i32_w]
    rfl
  refine take_ (i := 4) (N := some 7) (v := ?_) (a' := ?_) #[true, true, true, true, true, false, false, false] rfl rfl (by kernel_rfl) (fun _ _ _ h => h) (Or.inl ⟨by rfl, ?_⟩) hHeld ?_ ?_
  rotate_left
  · rintro w' s0
    obtain ⟨y0, y1, y2⟩ := Blk.cells (HC.out.go s0)
    go_simp
    with_reducible rfl
  rotate_left
  · simp only [Act.put, List.setIfInBounds_toArray, List.set_cons_zero, List.set_cons_succ, i64_w, i32_w]
    rfl
  refine one_ (i := 5) (N := some 8) #[true, true, true, true, true, true, false, false] rfl rfl (by kernel_rfl) (by decide) (fun K hK => ?_)
  refine goes_ Try.func49 (by kernel_rfl) rfl #[.agg #[.string c.src, .string c.dst, .slice A c.arcs.length cp]] (by rfl) rfl rfl (by (try simp only [List.map_toArray, List.map_cons, List.map_nil]); first | done | rfl) ?_
  refine (HTB.out _ (below_step HB0.out hHeld)).mono ?_
  rintro e2 w3 ⟨rfl, hb3⟩
  refine ⟨_, rfl, ?_⟩
  have hB := below_step hHeld hb3
  refine hK.out _ _ hB (fun _ => ?_)
  clear hK K hHeld hb3
  have hHeld := hB
  clear hB
  refine norm_ (a' := ?_) ?_ ?_
  rotate_left
  · show Act.put _ (some 8) _ = _
    simp only [Act.put, List.setIfInBounds_toArray, List.set_cons_zero, List.set_cons_succ, i64_w, i32_w]
    rfl
  refine one_ (i := 6) (N := some 9) #[true, true, true, true, true, true, true, false] rfl rfl (by kernel_rfl) (by decide) (fun K hK => ?_)
  refine goes_ Try.func71 (by kernel_rfl) rfl #[.string c.src, .string c.dst, .agg (cI (tabC c.arcs))] (by rfl) rfl rfl (by (try simp only [List.map_toArray, List.map_cons, List.map_nil]); first | done | rfl) ?_
  refine (called_calls c.src c.dst (tabC c.arcs) (tabC_len _) w3).mono ?_
  rintro e2 w4 ⟨v4, rfl, hr4, hb4⟩
  obtain ⟨A4, c4, ev4⟩ := Kd.R_slice hr4
  subst ev4
  refine ⟨_, rfl, ?_⟩
  have hB := below_step hHeld hb4
  refine hK.out _ _ hB (fun _ => ?_)
  have HR4 := Aside0.mk (Kd.R_lower hr4 (below_step HB0.out hHeld).size)
  clear hK K hHeld hb4 hr4
  have hHeld := hB
  clear hB
  refine norm_ (a' := ?_) ?_ ?_
  rotate_left
  · show Act.put _ (some 9) _ = _
    simp only [Act.put, List.setIfInBounds_toArray, List.set_cons_zero, List.set_cons_succ, i64_w, i32_w]
    rfl
  refine last_ (i := 7) (N := none) #[true, true, true, true, true, true, true, true] rfl rfl (by kernel_rfl) (by decide) (fun K hK => ?_)
  refine skip_ (by rfl) rfl (store_run (ty := 34) (x := .tmp 2) (v := .tmp 9) rfl rfl (w.heap.size + 1) 34 #[.string ⟨#[]⟩, .string ⟨#[]⟩, .slice none 0 0] #[.string c.src, .string c.dst, .slice A4 (arcsN (tabC c.arcs) 36).length c4] (by rfl) (by rfl) (blk_below HZ.out hHeld) (by kernel_rfl) rfl (by simp [Value.oneCell'])) ?_
  have HQ4 := Aside0.mk (setRow_at w4 (w.heap.size + 1) #[.string c.src, .string c.dst, .slice A4 (arcsN (tabC c.arcs) 36).length c4] _ 34 (blk_below HZ.out hHeld))
  have HZ4 := Aside0.mk (blk_below HZ.out hHeld)
  have HH := Aside0.mk hHeld
  refine hK.out _ _ ?_
  clear hK K hHeld
  refine done_ (by kernel_rfl) ?_
  go_wp2
  refine bodyPost_ret (v := .agg #[.string c.src, .string c.dst, .slice A4 (arcsN (tabC c.arcs) 36).length c4]) (results_cell1 rfl _ (by rfl) HQ4.out rfl Try.underlying34 (by kernel_rfl)) rfl ?_
  exact ⟨_, rfl, ⟨_, rfl, R_row HR4.out HZ4.out (by decide) _⟩, row_step HB0.out HH.out (by omega)⟩
/-- What Normal answers. -/
def normF (c : Cl) : Cl × Int := match readC c with
  | some g => (callG g, 0)
  | none => (dfC, 4)
set_option maxHeartbeats 4000000 in
set_option maxRecDepth 100000 in
theorem rnorm_calls (A : Option Addr) (cp : Nat) (c : Cl) (w : World) (h : kAc.C w A c.arcs.length c.arcs) :
    Calls Try.prog 24 #[.agg #[.string c.src, .string c.dst, .slice A c.arcs.length cp]] w fun e w' => ∃ v, e = .returned (.tuple #[v, .int .i64 (normF c).2]) ∧ CallOut w' w.heap.size (normF c).1 v ∧ Below w.heap.size w w' := by
  have HV := Aside0.mk (fun (W : World) (hb : Below w.heap.size w W) => valid_calls A cp c W (Kd.C_below h hb))
  have HRV := readC_val c
  have HC : Aside0 (Blk ((w.alloc (.cells #[.string c.src, .string c.dst, .slice A c.arcs.length cp] 34)).alloc (.cells #[.string ⟨#[]⟩, .string ⟨#[]⟩, .slice none 0 0] 34)) w.heap.size c A cp) := ⟨blk_below (blk_new w _) (below_alloc (Below.refl _ _) _)⟩
  have HB0 : Aside0 (Below w.heap.size w ((w.alloc (.cells #[.string c.src, .string c.dst, .slice A c.arcs.length cp] 34)).alloc (.cells #[.string ⟨#[]⟩, .string ⟨#[]⟩, .slice none 0 0] 34))) := ⟨below_step (below_alloc (Below.refl _ _) _) (below_alloc (Below.refl _ _) _)⟩
  have HZ : Aside0 (((w.alloc (.cells #[.string c.src, .string c.dst, .slice A c.arcs.length cp] 34)).alloc (.cells #[.string ⟨#[]⟩, .string ⟨#[]⟩, .slice none 0 0] 34)).heap[w.heap.size + 1]? = some (.cells #[.string ⟨#[]⟩, .string ⟨#[]⟩, .slice none 0 0] 34 (0, 0))) := ⟨by
    have h1 := blk_new (w.alloc (.cells #[.string c.src, .string c.dst, .slice A c.arcs.length cp] 34)) (.cells #[.string ⟨#[]⟩, .string ⟨#[]⟩, .slice none 0 0] 34)
    rw [World.size_alloc] at h1
    exact h1⟩
  cases hv : valC c with
  | false =>
    have HR := Aside0.mk (show normF c = (dfC, 4) by unfold normF; rw [HRV, hv]; rfl)
    rw [hv] at HV
    clear HRV hv h
    go_enter Try.func24, Try.ntmps24
    go_wp2_with (first | (go_at_call 48; refine (HV.out _ HB0.out).mono ?_; rintro e w1 ⟨rfl, hb1⟩; have HB1 := Aside0.mk hb1; clear hb1) | ((with_reducible refine gate_store (t := 34) (p := 2) rfl ?_); refine store_whole rfl rfl rfl (w.heap.size + 1) 34 _ #[.string ⟨#[]⟩, .string ⟨#[]⟩, .slice none 0 0] (by rfl) (by rfl) (blk_below HZ.out HB1.out) (by kernel_rfl) rfl (by simp [Value.oneCell']) ?_))
    refine bodyPost_ret (v := .tuple #[.agg #[.string ⟨#[]⟩, .string ⟨#[]⟩, .slice none 0 0], .int .i64 4]) (results_cell2 rfl _ (by rfl) (setRow_at _ (w.heap.size + 1) #[.string ⟨#[]⟩, .string ⟨#[]⟩, .slice none 0 0] _ 34 (blk_below HZ.out HB1.out)) rfl Try.underlying34 (by kernel_rfl) (by rfl)) rfl ?_
    exact ⟨_, by rw [HR.out], by rw [HR.out]; exact ⟨_, rfl, Kd.R_nil _ _ _ _ _⟩, row_step HB0.out HB1.out (by omega)⟩
  | true =>
    have HR := Aside0.mk (show normF c = (callG ⟨c.src, c.dst, tabC c.arcs⟩, 0) by unfold normF; rw [HRV, hv]; rfl)
    have hok : c.arcs.all okA = true := by
      simp only [valC, Bool.and_eq_true] at hv
      exact hv.2
    have HNO := Aside0.mk (fun (W : World) (hb : Below w.heap.size w W) => normal_calls A cp c W (Kd.C_below h hb) hok)
    rw [hv] at HV
    clear HRV hv h hok
    go_enter Try.func24, Try.ntmps24
    go_wp2_with (first | (go_at_call 48; refine (HV.out _ HB0.out).mono ?_; rintro e w1 ⟨rfl, hb1⟩; have HB1 := Aside0.mk hb1; obtain ⟨y0, y1, y2⟩ := Blk.cells (HC.out.go hb1); clear hb1) | (go_at_call 43; refine (HNO.out _ (below_step HB0.out HB1.out)).mono ?_; rintro e w2 ⟨v2, rfl, ⟨u2, rfl, hr2⟩, hb2⟩; obtain ⟨A4, c4, ev4⟩ := Kd.R_slice hr2; subst ev4; have HB2 := Aside0.mk (below_step HB1.out hb2); have HR4 := Aside0.mk (Kd.R_lower hr2 (below_step HB0.out HB1.out).size); clear hb2 hr2) | ((with_reducible refine gate_store (t := 34) (p := 2) rfl ?_); refine store_whole rfl rfl rfl (w.heap.size + 1) 34 _ #[.string (callG ⟨c.src, c.dst, tabC c.arcs⟩).src, .string (callG ⟨c.src, c.dst, tabC c.arcs⟩).dst, .slice A4 (callG ⟨c.src, c.dst, tabC c.arcs⟩).arcs.length c4] (by rfl) (by rfl) (blk_below HZ.out HB2.out) (by kernel_rfl) rfl (by simp [Value.oneCell', callG]) ?_))
    refine bodyPost_ret (v := .tuple #[.agg #[.string (callG ⟨c.src, c.dst, tabC c.arcs⟩).src, .string (callG ⟨c.src, c.dst, tabC c.arcs⟩).dst, .slice A4 (callG ⟨c.src, c.dst, tabC c.arcs⟩).arcs.length c4], .int .i64 0]) (results_cell2 rfl _ (by rfl) (setRow_at _ (w.heap.size + 1) #[.string (callG ⟨c.src, c.dst, tabC c.arcs⟩).src, .string (callG ⟨c.src, c.dst, tabC c.arcs⟩).dst, .slice A4 (callG ⟨c.src, c.dst, tabC c.arcs⟩).arcs.length c4] _ 34 (blk_below HZ.out HB2.out)) rfl Try.underlying34 (by kernel_rfl) (by rfl)) rfl ?_
    exact ⟨_, by rw [HR.out], by rw [HR.out]; exact ⟨_, rfl, R_row HR4.out (blk_below HZ.out HB2.out) (by decide) _⟩, row_step HB0.out HB2.out (by omega)⟩
set_option maxHeartbeats 4000000 in
set_option maxRecDepth 100000 in
theorem norm_calls (A : Option Addr) (cp : Nat) (c : Cl) (w : World) (h : kAc.C w A c.arcs.length c.arcs) (hl : c.arcs.length ≤ 1000000) :
    Calls Try.prog 23 #[.agg #[.string c.src, .string c.dst, .slice A c.arcs.length cp]] w fun e w' => ∃ v, e = .returned (.tuple #[v, .int .i64 (normF c).2]) ∧ CallOut w' w.heap.size (normF c).1 v ∧ Below w.heap.size w w' := by
  obtain ⟨cz, hcz⟩ : ∃ cz, cz = cG ⟨.empty, .empty, List.replicate 36 0⟩ := ⟨_, rfl⟩
  have HZR := Aside0.mk (zero81 cz hcz)
  have HZS := Aside0.mk (show cz.size = 38 by rw [hcz]; exact cG_size' (by simp))
  clear hcz
  obtain ⟨g, cg, ok, hrd, hcg, hsg, hog, hcall⟩ := read2 A cp c w h hl
  have HCA := Aside0.mk hcall
  have HSG := Aside0.mk hsg
  have HOG := Aside0.mk hog
  have HB0 : Aside0 (Below w.heap.size w ((w.alloc (.cells #[.string c.src, .string c.dst, .slice A c.arcs.length cp] 34)).alloc (.cells #[.string ⟨#[]⟩, .string ⟨#[]⟩, .slice none 0 0] 34))) := ⟨below_step (below_alloc (Below.refl _ _) _) (below_alloc (Below.refl _ _) _)⟩
  have HZ : Aside0 (((w.alloc (.cells #[.string c.src, .string c.dst, .slice A c.arcs.length cp] 34)).alloc (.cells #[.string ⟨#[]⟩, .string ⟨#[]⟩, .slice none 0 0] 34)).heap[w.heap.size + 1]? = some (.cells #[.string ⟨#[]⟩, .string ⟨#[]⟩, .slice none 0 0] 34 (0, 0))) := ⟨by
    have h1 := blk_new (w.alloc (.cells #[.string c.src, .string c.dst, .slice A c.arcs.length cp] 34)) (.cells #[.string ⟨#[]⟩, .string ⟨#[]⟩, .slice none 0 0] 34)
    rw [World.size_alloc] at h1
    exact h1⟩
  clear hcall hsg hog h hl
  cases ok with
  | false =>
    have HR := Aside0.mk (show normF c = (dfC, 4) by unfold normF; rw [hrd]; rfl)
    clear hrd hcg
    go_enter Try.func23, Try.ntmps23
    go_wp2_with (first | (go_at_call 45; refine (HCA.out _ HB0.out).mono ?_; rintro e w0 ⟨rfl, hb0⟩; have HBA := Aside0.mk hb0; clear hb0 HCA) | ((with_reducible refine gate_alloc (t := 81) rfl ?_); refine alloc_zero rfl rfl cz HZR.out ?_) | ((with_reducible refine gate_store (t := 81) (p := 4) rfl ?_); refine store_last rfl rfl rfl _ 81 cz cg (by rfl) (by rfl) rfl (by rw [HSG.out]; kernel_rfl) (HZS.out.trans HSG.out.symm) HOG.out ?_; have HB1 := Aside0.mk (below_step HBA.out (below_alloc (Below.refl w0.heap.size w0) (.cells cg 81))); have HG1 := Aside0.mk (blk_new w0 (.cells cg 81)); generalize w0.alloc (.cells cg 81) = W1 at HB1 HG1 ⊢; generalize w0.heap.size = gbk at HG1 ⊢) | ((with_reducible refine gate_store (t := 34) (p := 2) rfl ?_); refine store_whole rfl rfl rfl (w.heap.size + 1) 34 _ #[.string ⟨#[]⟩, .string ⟨#[]⟩, .slice none 0 0] (by rfl) (by rfl) (blk_below HZ.out HB1.out) (by kernel_rfl) rfl (by simp [Value.oneCell']) ?_))
    refine bodyPost_ret (v := .tuple #[.agg #[.string ⟨#[]⟩, .string ⟨#[]⟩, .slice none 0 0], .int .i64 4]) (results_cell2 rfl _ (by rfl) (setRow_at _ (w.heap.size + 1) #[.string ⟨#[]⟩, .string ⟨#[]⟩, .slice none 0 0] _ 34 (blk_below HZ.out HB1.out)) rfl Try.underlying34 (by kernel_rfl) (by rfl)) rfl ?_
    exact ⟨_, by rw [HR.out], by rw [HR.out]; exact ⟨_, rfl, Kd.R_nil _ _ _ _ _⟩, row_step HB0.out HB1.out (by omega)⟩
  | true =>
    have hrd' : readC c = some g := hrd
    have HR := Aside0.mk (show normF c = (callG g, 0) by unfold normF; rw [hrd'])
    have HCL := Aside0.mk (fun W => show Calls Try.prog 47 #[.agg cg] W fun e w' => ∃ v, e = .returned (.agg #[.string g.src, .string g.dst, v]) ∧ kAc.R 24 w' W.heap.size (fun _ => True) v (arcsN g.tab 36) ∧ Below W.heap.size W w' from by
      rw [hcg]
      exact call_calls g (readC_tab hrd') W)
    clear hrd hrd' hcg
    go_enter Try.func23, Try.ntmps23
    go_wp2_with (first | (go_at_call 45; refine (HCA.out _ HB0.out).mono ?_; rintro e w0 ⟨rfl, hb0⟩; have HBA := Aside0.mk hb0; clear hb0 HCA) | ((with_reducible refine gate_alloc (t := 81) rfl ?_); refine alloc_zero rfl rfl cz HZR.out ?_) | ((with_reducible refine gate_store (t := 81) (p := 4) rfl ?_); refine store_last rfl rfl rfl _ 81 cz cg (by rfl) (by rfl) rfl (by rw [HSG.out]; kernel_rfl) (HZS.out.trans HSG.out.symm) HOG.out ?_; have HB1 := Aside0.mk (below_step HBA.out (below_alloc (Below.refl w0.heap.size w0) (.cells cg 81))); have HG1 := Aside0.mk (blk_new w0 (.cells cg 81)); generalize w0.alloc (.cells cg 81) = W1 at HB1 HG1 ⊢; generalize w0.heap.size = gbk at HG1 ⊢) | ((with_reducible refine gate_load (t := 81) (x := .tmp 4) rfl ?_); refine load_whole rfl rfl _ 81 cg _ (by rfl) HG1.out Try.underlying81 rfl (by rw [HSG.out]; kernel_rfl) ?_) | (go_at_call 47; refine (HCL.out _).mono ?_; rintro e w2 ⟨v2, rfl, hr2, hb2⟩; obtain ⟨A4, c4, ev4⟩ := Kd.R_slice hr2; subst ev4; have HB2 := Aside0.mk (below_step HB1.out hb2); have HR4 := Aside0.mk (Kd.R_lower hr2 (below_step HB0.out HB1.out).size); clear hb2 hr2) | ((with_reducible refine gate_store (t := 34) (p := 2) rfl ?_); refine store_whole rfl rfl rfl (w.heap.size + 1) 34 _ #[.string g.src, .string g.dst, .slice A4 (arcsN g.tab 36).length c4] (by rfl) (by rfl) (blk_below HZ.out HB2.out) (by kernel_rfl) rfl (by simp [Value.oneCell']) ?_))
    refine bodyPost_ret (v := .tuple #[.agg #[.string g.src, .string g.dst, .slice A4 (arcsN g.tab 36).length c4], .int .i64 0]) (results_cell2 rfl _ (by rfl) (setRow_at _ (w.heap.size + 1) #[.string g.src, .string g.dst, .slice A4 (arcsN g.tab 36).length c4] _ 34 (blk_below HZ.out HB2.out)) rfl Try.underlying34 (by kernel_rfl) (by rfl)) rfl ?_
    exact ⟨_, by rw [HR.out], by rw [HR.out]; exact ⟨_, rfl, R_row HR4.out (blk_below HZ.out HB2.out) (by decide) _⟩, row_step HB0.out HB2.out (by omega)⟩
end Go.Proofs.Ytiepinfcndefhaa.S
