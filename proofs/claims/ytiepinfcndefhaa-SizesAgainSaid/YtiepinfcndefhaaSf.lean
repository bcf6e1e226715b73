/- A call read as a graph: the walk. No condition. -/
import Derived.Test.YtiepinfcndefhaaSe
namespace Go.Proofs.Ytiepinfcndefhaa.S
open Go.RowKit Go.Proofs.YtiepinfcndefhaaW.PrintWords Go.Proofs.YtiepinfcndefhaaW.PrintLast Go.Proofs.YtiepinfcndefhaaW.PrintMore
set_option linter.unusedVariables false
set_option linter.unusedSimpArgs false

/-- An arc's kind. -/
def kAc : Kd Ac := Kd.iso (Kd.pair (Kd.int .i64) (Kd.pair (Kd.int .i64) Kd.bool)) (fun x : Ac => (x.a, x.b, x.s))
theorem ac_get {w : World} {A : Option Addr} {l : List Ac} (h : kAc.C w A l.length l) (i : Nat) (hi : i < l.length) : ∃ ad, A = some ad ∧ w.cell? (ad.add (i * 3)) = some (.int .i64 l[i].a) ∧ w.cell? ⟨(ad.add (i * 3)).block, (ad.add (i * 3)).off + 1, none⟩ = some (.int .i64 l[i].b) ∧ w.cell? ⟨(ad.add (i * 3)).block, (ad.add (i * 3)).off + 2, none⟩ = some (.bool l[i].s) := by
  obtain ⟨ad, c, e, _, hk, hc⟩ := Kd.C_get h (⟨0, 0, false⟩ : Ac) (i : Int) (by omega) (by omega)
  rw [Int.toNat_natCast] at hk hc
  rw [show l.getD i (⟨0, 0, false⟩ : Ac) = l[i] by rw [List.getD_eq_getElem?_getD, List.getElem?_eq_getElem hi]; rfl] at hk
  obtain ⟨c0, c1, rfl, rfl, c2, c3, rfl, rfl, rfl⟩ := hk
  have e1 : ad.add (i * 3 + 1) = ⟨(ad.add (i * 3)).block, (ad.add (i * 3)).off + 1, none⟩ := (Addr.add_add ad (i * 3) 1).symm.trans (by simp [Addr.add])
  have e2 : ad.add (i * 3 + 2) = ⟨(ad.add (i * 3)).block, (ad.add (i * 3)).off + 2, none⟩ := (Addr.add_add ad (i * 3) 2).symm.trans (by simp [Addr.add])
  exact ⟨ad, e, hc 0 _ rfl, by rw [← e1]; exact hc 1 _ rfl, by rw [← e2]; exact hc 2 _ rfl⟩
theorem max2_run (x y : Int) (w : World) : (Builtin.max_ #[5, 5] 5 #[.int .u8 x, .int .u8 y]).run Try.prog w = .ok (.int .u8 (max x y)) w := by
  have e : ∀ p q : Int, (if p < q then q else p) = max p q := fun p q => by split <;> omega
  rw [max_two, max2_int, e]
  simp only [Sem.run_bind, Sem.run_pure, Result.andThen]
def readT : List Ac → List Int → List Int × Bool
  | [], t => (t, true)
  | x :: l, t => if okA x = true then readT l (setA t x) else (t, false)
theorem readT_len : ∀ (l : List Ac) (t : List Int), (readT l t).1.length = t.length
  | [], _ => rfl
  | x :: l, t => by
    unfold readT
    split
    · rw [readT_len l, setA_len]
    · rfl
theorem readT_ok : ∀ (l : List Ac) (t : List Int), ((readT l t).2 = true → l.all okA = true ∧ (readT l t).1 = l.foldl setA t) ∧ ((readT l t).2 = false → l.all okA = false)
  | [], _ => ⟨fun _ => ⟨rfl, rfl⟩, fun h => by cases h⟩
  | x :: l, t => by
    unfold readT
    by_cases h : okA x = true
    · rw [if_pos h]
      simp only [List.all_cons, h, Bool.true_and, List.foldl_cons]
      exact readT_ok l (setA t x)
    · rw [if_neg h]
      have h' : okA x = false := Bool.eq_false_iff.mpr h
      exact ⟨fun e => (by cases e), fun _ => (by simp [h'])⟩
/-- What read answers. -/
def readR (c : Cl) : Gr × Bool := if c.src.size = 0 ∨ c.dst.size = 0 then (⟨c.src, c.dst, zeros⟩, false) else (⟨c.src, c.dst, (readT c.arcs zeros).1⟩, (readT c.arcs zeros).2)
theorem readR_iff (c : Cl) : readC c = if (readR c).2 = true then some (readR c).1 else none := by
  unfold readC readR
  by_cases h : c.src.size = 0 ∨ c.dst.size = 0
  · rw [if_pos h, if_pos h]; rfl
  · rw [if_neg h, if_neg h]
    have := readT_ok c.arcs zeros
    cases hb : (readT c.arcs zeros).2 with
    | true =>
      obtain ⟨h1, h2⟩ := this.1 hb
      rw [if_pos h1, if_pos rfl, h2]
    | false =>
      rw [this.2 hb]
      rfl
theorem readR_len (c : Cl) : (readR c).1.tab.length = 36 := by
  unfold readR
  split
  · simp [zeros]
  · show (readT c.arcs zeros).1.length = 36
    rw [readT_len]; simp [zeros]
/-- What stands in memory while a call is read. -/
structure Rd (w W : World) (cb zb ob : Nat) (cc zc co : Array Value) : Prop where
  below : Below w.heap.size w W
  c : W.heap[cb]? = some (.cells cc 34 (0, 0))
  z : W.heap[zb]? = some (.cells zc 81 (0, 0))
  o : W.heap[ob]? = some (.cells co 81 (0, 0))
  ge : w.heap.size ≤ zb ∧ w.heap.size ≤ ob
  ne : cb ≠ ob ∧ zb ≠ ob
section
variable {w W W2 : World} {cb zb ob : Nat} {cc zc co : Array Value}
theorem Rd.go (t : Rd w W cb zb ob cc zc co) (h : Below W.heap.size W W2) : Rd w W2 cb zb ob cc zc co := ⟨below_step t.below h, blk_below t.c h, blk_below t.z h, blk_below t.o h, t.ge, t.ne⟩
theorem Rd.set (t : Rd w W cb zb ob cc zc co) (k : Nat) (v : Value) : Rd w (W.setCell ⟨ob, k, none⟩ v) cb zb ob cc zc (co.setIfInBounds k v) :=
  ⟨t.below.setCell t.ge.2 v, (Below.heap_setCell W ⟨ob, k, none⟩ v cb t.ne.1).trans t.c, (Below.heap_setCell W ⟨ob, k, none⟩ v zb t.ne.2).trans t.z, heap_set W ob k v co 81 t.o, t.ge, t.ne⟩
end
theorem read_start (w : World) (cc zc co : Array Value) : Rd w (((w.alloc (.cells cc 34)).alloc (.cells zc 81)).alloc (.cells co 81)) w.heap.size (w.heap.size + 1) (w.heap.size + 1 + 1) cc zc co := by
  have e1 : (w.alloc (.cells cc 34)).heap.size = w.heap.size + 1 := World.size_alloc _ _
  have e2 : ((w.alloc (.cells cc 34)).alloc (.cells zc 81)).heap.size = w.heap.size + 1 + 1 := by rw [World.size_alloc, e1]
  have h0 := blk_new w (.cells cc 34)
  have h1 := blk_new (w.alloc (.cells cc 34)) (.cells zc 81)
  have h2 := blk_new ((w.alloc (.cells cc 34)).alloc (.cells zc 81)) (.cells co 81)
  rw [e1] at h1
  rw [e2] at h2
  have st : ∀ (W : World) (o : Obj), Below W.heap.size W (W.alloc o) := fun W o => below_alloc (Below.refl _ _) o
  exact ⟨below_step (below_step (st _ _) (st _ _)) (st _ _), blk_below (blk_below h0 (st _ _)) (st _ _), blk_below h1 (st _ _), h2, ⟨by omega, by omega⟩, ⟨by omega, by omega⟩⟩
theorem zero81 : (zc : Array Value) → zc = cG ⟨.empty, .empty, List.replicate 36 0⟩ → ∀ w, (zeroValue 81).run Try.prog w = .ok (.agg zc) w := by
  rintro zc rfl
  have h : (Try.prog.info? 81).map (fun i => (i.zero, i.size)) = some (some (.agg (cG ⟨.empty, .empty, List.replicate 36 0⟩)), 38) := by kernel_rfl
  exact (zero_of_info h).1
theorem cG_size' {g : Gr} (hl : g.tab.length = 36) : (cG g).size = 38 := by simp [cG, hl]

theorem empty_of {s : ByteArray} (h : s.size = 0) : s = ⟨#[]⟩ := by
  obtain ⟨d⟩ := s
  congr 1
  exact Array.eq_empty_of_size_eq_zero h
theorem empty_not {s : ByteArray} (h : ¬ s.size = 0) : s.toList.isEmpty = false := by
  rw [ByteArray.toList_eq]
  cases hd : s.data.toList with
  | nil =>
    refine (h ?_).elim
    show s.data.size = 0
    rw [← Array.length_toList, hd]
    rfl
  | cons x l => rfl
set_option maxHeartbeats 2000000 in
set_option maxRecDepth 100000 in
theorem read_calls (A : Option Addr) (cp : Nat) (c : Cl) (w : World) (h : kAc.C w A c.arcs.length c.arcs) (hl : c.arcs.length ≤ 1000000) :
    Calls Try.prog 45 #[.agg #[.string c.src, .string c.dst, .slice A c.arcs.length cp]] w fun e w' => e = .returned (.tuple #[vG (readR c).1, .bool (readR c).2]) ∧ Below w.heap.size w w' := by
  obtain ⟨src, dst, arcs⟩ := c
  have HC := Aside0.mk h
  have HLL := Aside0.mk hl
  obtain ⟨zc, hzc⟩ : ∃ zc, zc = cG ⟨.empty, .empty, List.replicate 36 0⟩ := ⟨_, rfl⟩
  have hzr := zero81 zc hzc
  have HZS := Aside0.mk (show zc.size = 38 by rw [hzc]; exact cG_size' (by simp))
  have HZR := Aside0.mk hzr
  clear h hl hzc hzr
  obtain ⟨co, hco⟩ : ∃ co, co = cG ⟨src, dst, zeros⟩ := ⟨_, rfl⟩
  have HCS := Aside0.mk (show co.size = 38 by rw [hco]; exact cG_size zeros_tab)
  have HC1 := Aside0.mk (show co.all (·.oneCell') = true by rw [hco]; exact cG_one _)
  have HCO := Aside0.mk hco
  clear hco
  go_enter Try.func45, Try.ntmps45
  have T0 := Aside0.mk (read_start w #[.string src, .string dst, .slice A arcs.length cp] zc co)
  by_cases hz : src.size = 0 ∨ dst.size = 0
  · have HR := Aside0.mk (show readR ⟨src, dst, arcs⟩ = (⟨src, dst, zeros⟩, false) from if_pos hz)
    have HE := Aside0.mk (show vG ⟨src, dst, zeros⟩ = .agg co by rw [HCO.out]; rfl)
    by_cases hs1 : src.size = 0
    · obtain rfl := empty_of hs1
      clear hz hs1
      go_wp2_with (first | ((with_reducible refine gate_alloc (t := 81) rfl ?_); refine alloc_zero rfl rfl zc HZR.out ?_) | ((with_reducible refine gate_build (t := 81) rfl ?_); refine value_law rfl (.agg co) ?hr ?_; (case hr => (rw [HCO.out]; go_simp; rfl)); intro ub hub; have HU := Aside0.mk hub; clear hub) | ((with_reducible refine gate_store (t := 81) (p := 4) rfl ?_); refine store_last rfl rfl rfl _ 81 _ co (by rfl) (by exact HU.out) (by simp only [World.size_alloc]) (by rw [HCS.out]; kernel_rfl) (HZS.out.trans HCS.out.symm) HC1.out ?_) | ((with_reducible refine gate_load (t := 81) (x := .tmp 4) rfl ?_); refine load_whole rfl rfl (w.heap.size + 1 + 1) 81 co _ (by rfl) T0.out.o Try.underlying81 rfl (by rw [HCS.out]; kernel_rfl) ?_) | ((with_reducible refine gate_store (t := 81) (p := 2) rfl ?_); refine store_whole rfl rfl rfl (w.heap.size + 1) 81 zc co (by rfl) (by rfl) T0.out.z (by rw [HCS.out]; kernel_rfl) (HZS.out.trans HCS.out.symm) HC1.out ?_))
      refine bodyPost_ret (v := .tuple #[.agg co, .bool false]) (results_cell2 rfl _ (by rfl) (setRow_at _ (w.heap.size + 1) co zc 81 T0.out.z) rfl Try.underlying81 (by rw [HCS.out]; kernel_rfl) (by rfl)) rfl ?_
      exact ⟨by rw [HR.out]; show _ = Ending.returned (.tuple #[vG _, _]); rw [HE.out], below_setRow' T0.out.below T0.out.ge.1⟩
    · have hs2 : dst.size = 0 := hz.resolve_left hs1
      have e1 := empty_not hs1
      obtain rfl := empty_of hs2
      clear hz hs1 hs2
      go_wp2_with (first | ((with_reducible refine gate_alloc (t := 81) rfl ?_); refine alloc_zero rfl rfl zc HZR.out ?_) | ((with_reducible refine gate_build (t := 81) rfl ?_); refine value_law rfl (.agg co) ?hr ?_; (case hr => (rw [HCO.out]; go_simp; rfl)); intro ub hub; have HU := Aside0.mk hub; clear hub) | ((with_reducible refine gate_store (t := 81) (p := 4) rfl ?_); refine store_last rfl rfl rfl _ 81 _ co (by rfl) (by exact HU.out) (by simp only [World.size_alloc]) (by rw [HCS.out]; kernel_rfl) (HZS.out.trans HCS.out.symm) HC1.out ?_) | ((with_reducible refine gate_load (t := 81) (x := .tmp 4) rfl ?_); refine load_whole rfl rfl (w.heap.size + 1 + 1) 81 co _ (by rfl) T0.out.o Try.underlying81 rfl (by rw [HCS.out]; kernel_rfl) ?_) | ((with_reducible refine gate_store (t := 81) (p := 2) rfl ?_); refine store_whole rfl rfl rfl (w.heap.size + 1) 81 zc co (by rfl) (by rfl) T0.out.z (by rw [HCS.out]; kernel_rfl) (HZS.out.trans HCS.out.symm) HC1.out ?_))
      refine bodyPost_ret (v := .tuple #[.agg co, .bool false]) (results_cell2 rfl _ (by rfl) (setRow_at _ (w.heap.size + 1) co zc 81 T0.out.z) rfl Try.underlying81 (by rw [HCS.out]; kernel_rfl) (by rfl)) rfl ?_
      exact ⟨by rw [HR.out]; show _ = Ending.returned (.tuple #[vG _, _]); rw [HE.out], below_setRow' T0.out.below T0.out.ge.1⟩
  · have e1 := empty_not (fun h => hz (.inl h))
    have e3 := empty_not (fun h => hz (.inr h))
    have HR := Aside0.mk (show readR ⟨src, dst, arcs⟩ = (⟨src, dst, (readT arcs zeros).1⟩, (readT arcs zeros).2) from if_neg hz)
    clear hz
    go_wp2_with (first | ((with_reducible refine gate_alloc (t := 81) rfl ?_); refine alloc_zero rfl rfl zc HZR.out ?_) | ((with_reducible refine gate_build (t := 81) rfl ?_); refine value_law rfl (.agg co) ?hr ?_; (case hr => (rw [HCO.out]; go_simp; rfl)); intro ub hub; have HU := Aside0.mk hub; clear hub) | ((with_reducible refine gate_store (t := 81) (p := 4) rfl ?_); refine store_last rfl rfl rfl _ 81 _ co (by rfl) (by exact HU.out) (by simp only [World.size_alloc]) (by rw [HCS.out]; kernel_rfl) (HZS.out.trans HCS.out.symm) HC1.out ?_))
    clear e1 e3 HC1
    generalize (((w.alloc (.cells #[.string src, .string dst, .slice A arcs.length cp] 34)).alloc (.cells zc 81)).alloc (.cells co 81)) = W at T0 ⊢
    generalize w.heap.size + 1 + 1 = ob at T0 ⊢
    generalize w.heap.size + 1 = zb at T0 ⊢
    go_loopg [25] arcs.length (fun kq v25 w' => ∃ (i : Nat) (t : List Int), v25 = .int .i64 (i : Int) ∧ Aside0 (kq + i = arcs.length) ∧ Aside0 (t.length = 36) ∧ Aside0 (readT arcs zeros = readT (arcs.drop i) t) ∧ Aside0 (Rd w w' w.heap.size zb ob #[.string src, .string dst, .slice A arcs.length cp] zc (cG ⟨src, dst, t⟩)))
    case atStart =>
      refine ⟨0, zeros, rfl, ⟨rfl⟩, ⟨rfl⟩, ⟨rfl⟩, ⟨?_⟩⟩
      have := T0.out
      rw [HCO.out] at this
      exact this
    case round =>
      clear T0 HCO HCS HU
      obtain ⟨i, t, rfl, HK, HTL, HT, T1⟩ := hrel
      by_cases hlt : i < arcs.length
      · have hdx : decide ((i : Int) < (arcs.length : Int)) = true := decide_eq_true (by omega)
        have hi0 : (i : Int) < (arcs.length : Int) := by omega
        obtain ⟨ad, e, q0, q1, q2⟩ := ac_get (Kd.C_below HC.out T1.out.below) i hlt
        subst e
        have HN := Aside0.mk (show readT (arcs.drop i) t = if okA arcs[i] = true then readT (arcs.drop (i + 1)) (setA t arcs[i]) else (t, false) by rw [List.drop_eq_getElem_cons hlt]; rfl)
        generalize arcs[i] = x at q0 q1 q2 HN
        obtain ⟨xa, xb, xs⟩ := x
        dsimp only at q0 q1 q2
        have hib : wrap64 ((i : Int) + 1) = (i : Int) + 1 := by have := HLL.out; unfold wrap64; omega
        have HTC := Aside0.mk (cG_size' (g := ⟨src, dst, t⟩) HTL.out)
        have HT1 := Aside0.mk (cG_one ⟨src, dst, t⟩)
        have T2 := Aside0.mk (T1.out.go (below_alloc (Below.refl wr.heap.size wr) (.cells #[.int .i64 xa, .int .i64 xb, .bool xs] 24)))
        by_cases h1 : xa < 0
        · have d1 : decide (xa < 0) = true := decide_eq_true h1
          have HX := Aside0.mk (HN.out.trans (if_neg (by simp [okA]; omega)))
          clear h1 T1 HN
          have HV := Aside0.mk (show vG ⟨src, dst, t⟩ = .agg (cG ⟨src, dst, t⟩) from rfl)
          generalize cG ⟨src, dst, t⟩ = ct at HTC HT1 T2 HV
          go_wp2_with (first | ((with_reducible refine gate_load (t := 81) (x := .tmp 4) rfl ?_); refine load_whole rfl rfl ob 81 ct _ (by rfl) T2.out.o Try.underlying81 rfl (by rw [HTC.out]; kernel_rfl) ?_) | ((with_reducible refine gate_store (t := 81) (p := 2) rfl ?_); refine store_whole rfl rfl rfl zb 81 zc ct (by rfl) (by rfl) T2.out.z (by rw [HTC.out]; kernel_rfl) (HZS.out.trans HTC.out.symm) HT1.out ?_))
          refine bodyPost_ret (v := .tuple #[.agg ct, .bool false]) (results_cell2 rfl _ (by rfl) (setRow_at _ zb ct zc 81 T2.out.z) rfl Try.underlying81 (by rw [HTC.out]; kernel_rfl) (by rfl)) rfl ?_
          exact ⟨by rw [HR.out, HT.out, HX.out]; show _ = Ending.returned (.tuple #[vG _, _]); rw [HV.out], below_setRow' T2.out.below T2.out.ge.1⟩
        · have d1 : decide (xa < 0) = false := decide_eq_false h1
          by_cases h2 : 6 ≤ xa
          · have d2 : decide (6 ≤ xa) = true := decide_eq_true h2
            have HX := Aside0.mk (HN.out.trans (if_neg (by simp [okA]; omega)))
            clear h1 h2 T1 HN
            have HV := Aside0.mk (show vG ⟨src, dst, t⟩ = .agg (cG ⟨src, dst, t⟩) from rfl)
            generalize cG ⟨src, dst, t⟩ = ct at HTC HT1 T2 HV
            go_wp2_with (first | ((with_reducible refine gate_load (t := 81) (x := .tmp 4) rfl ?_); refine load_whole rfl rfl ob 81 ct _ (by rfl) T2.out.o Try.underlying81 rfl (by rw [HTC.out]; kernel_rfl) ?_) | ((with_reducible refine gate_store (t := 81) (p := 2) rfl ?_); refine store_whole rfl rfl rfl zb 81 zc ct (by rfl) (by rfl) T2.out.z (by rw [HTC.out]; kernel_rfl) (HZS.out.trans HTC.out.symm) HT1.out ?_))
            refine bodyPost_ret (v := .tuple #[.agg ct, .bool false]) (results_cell2 rfl _ (by rfl) (setRow_at _ zb ct zc 81 T2.out.z) rfl Try.underlying81 (by rw [HTC.out]; kernel_rfl) (by rfl)) rfl ?_
            exact ⟨by rw [HR.out, HT.out, HX.out]; show _ = Ending.returned (.tuple #[vG _, _]); rw [HV.out], below_setRow' T2.out.below T2.out.ge.1⟩
          · have d2 : decide (6 ≤ xa) = false := decide_eq_false h2
            by_cases h3 : xb < 0
            · have d3 : decide (xb < 0) = true := decide_eq_true h3
              have HX := Aside0.mk (HN.out.trans (if_neg (by simp [okA]; omega)))
              clear h1 h2 h3 T1 HN
              have HV := Aside0.mk (show vG ⟨src, dst, t⟩ = .agg (cG ⟨src, dst, t⟩) from rfl)
              generalize cG ⟨src, dst, t⟩ = ct at HTC HT1 T2 HV
              go_wp2_with (first | ((with_reducible refine gate_load (t := 81) (x := .tmp 4) rfl ?_); refine load_whole rfl rfl ob 81 ct _ (by rfl) T2.out.o Try.underlying81 rfl (by rw [HTC.out]; kernel_rfl) ?_) | ((with_reducible refine gate_store (t := 81) (p := 2) rfl ?_); refine store_whole rfl rfl rfl zb 81 zc ct (by rfl) (by rfl) T2.out.z (by rw [HTC.out]; kernel_rfl) (HZS.out.trans HTC.out.symm) HT1.out ?_))
              refine bodyPost_ret (v := .tuple #[.agg ct, .bool false]) (results_cell2 rfl _ (by rfl) (setRow_at _ zb ct zc 81 T2.out.z) rfl Try.underlying81 (by rw [HTC.out]; kernel_rfl) (by rfl)) rfl ?_
              exact ⟨by rw [HR.out, HT.out, HX.out]; show _ = Ending.returned (.tuple #[vG _, _]); rw [HV.out], below_setRow' T2.out.below T2.out.ge.1⟩
            · have d3 : decide (xb < 0) = false := decide_eq_false h3
              by_cases h4 : 6 ≤ xb
              · have d4 : decide (6 ≤ xb) = true := decide_eq_true h4
                have HX := Aside0.mk (HN.out.trans (if_neg (by simp [okA]; omega)))
                clear h1 h2 h3 h4 T1 HN
                have HV := Aside0.mk (show vG ⟨src, dst, t⟩ = .agg (cG ⟨src, dst, t⟩) from rfl)
                generalize cG ⟨src, dst, t⟩ = ct at HTC HT1 T2 HV
                go_wp2_with (first | ((with_reducible refine gate_load (t := 81) (x := .tmp 4) rfl ?_); refine load_whole rfl rfl ob 81 ct _ (by rfl) T2.out.o Try.underlying81 rfl (by rw [HTC.out]; kernel_rfl) ?_) | ((with_reducible refine gate_store (t := 81) (p := 2) rfl ?_); refine store_whole rfl rfl rfl zb 81 zc ct (by rfl) (by rfl) T2.out.z (by rw [HTC.out]; kernel_rfl) (HZS.out.trans HTC.out.symm) HT1.out ?_))
                refine bodyPost_ret (v := .tuple #[.agg ct, .bool false]) (results_cell2 rfl _ (by rfl) (setRow_at _ zb ct zc 81 T2.out.z) rfl Try.underlying81 (by rw [HTC.out]; kernel_rfl) (by rfl)) rfl ?_
                exact ⟨by rw [HR.out, HT.out, HX.out]; show _ = Ending.returned (.tuple #[vG _, _]); rw [HV.out], below_setRow' T2.out.below T2.out.ge.1⟩
              · have d4 : decide (6 ≤ xb) = false := decide_eq_false h4
                have HOK : okA ⟨xa, xb, xs⟩ = true := by simp [okA]; omega
                obtain ⟨na, rfl⟩ := Int.eq_ofNat_of_zero_le (show 0 ≤ xa by omega)
                obtain ⟨nb, rfl⟩ := Int.eq_ofNat_of_zero_le (show 0 ≤ xb by omega)
                have HX := Aside0.mk (HN.out.trans (if_pos HOK))
                have HNA := Aside0.mk (show na < 6 ∧ nb < 6 from ⟨by omega, by omega⟩)
                clear h1 h2 h3 h4 T1 HN HOK
                cases xs with
                | true =>
                  have HSA := Aside0.mk (show setA t ⟨na, nb, true⟩ = t.set (6 * na + nb) (max (tat t na nb) 2) by simp [setA])
                  go_wp2
                  clear q0 q1 q2 d1 d2 d3 d4 hdx
                  have y0 := (blk_cell (blk_new wr (.cells #[.int .i64 (na : Int), .int .i64 (nb : Int), .bool true] 24)) 0).trans rfl
                  have y1 := (blk_cell (blk_new wr (.cells #[.int .i64 (na : Int), .int .i64 (nb : Int), .bool true] 24)) 1).trans rfl
                  generalize wr.alloc (.cells #[.int .i64 (na : Int), .int .i64 (nb : Int), .bool true] 24) = W2 at T2 y0 y1 ⊢
                  generalize wr.heap.size = tb at y0 y1 ⊢
                  have z0 := blk_at T2.out.o (cG_at (g := ⟨src, dst, t⟩) HTL.out HNA.out.1 HNA.out.2)
                  have z1 := blk_frozen T2.out.o (2 + na * 6 + nb)
                  have b1 : (na : Int) < 6 := by have := HNA.out; omega
                  have b2 : (nb : Int) < 6 := by have := HNA.out; omega
                  have b3 : (0 : Int) ≤ (na : Int) := by omega
                  have b4 : (0 : Int) ≤ (nb : Int) := by omega
                  have hmx := max2_run (tat t na nb) 2
                  go_region
                  clear y0 y1 z0 z1 b1 b2 b3 b4 hmx
                  go_wp2
                  go_roundg (arcs.length - i - 1)
                  case measure => have := HK.out; omega
                  case rel => exact ⟨i + 1, setA t ⟨na, nb, true⟩, by go_num, ⟨by omega⟩, ⟨by rw [setA_len]; exact HTL.out⟩, ⟨HT.out.trans HX.out⟩, ⟨by rw [HSA.out, ← cG_set ⟨src, dst, t⟩ na nb]; exact (T2.out.set _ _).go (below_drew1 (Below.refl _ _))⟩⟩
                | false =>
                  have HSA := Aside0.mk (show setA t ⟨na, nb, false⟩ = t.set (6 * na + nb) (max (tat t na nb) 1) by simp [setA])
                  go_wp2
                  clear q0 q1 q2 d1 d2 d3 d4 hdx
                  have y0 := (blk_cell (blk_new wr (.cells #[.int .i64 (na : Int), .int .i64 (nb : Int), .bool false] 24)) 0).trans rfl
                  have y1 := (blk_cell (blk_new wr (.cells #[.int .i64 (na : Int), .int .i64 (nb : Int), .bool false] 24)) 1).trans rfl
                  generalize wr.alloc (.cells #[.int .i64 (na : Int), .int .i64 (nb : Int), .bool false] 24) = W2 at T2 y0 y1 ⊢
                  generalize wr.heap.size = tb at y0 y1 ⊢
                  have z0 := blk_at T2.out.o (cG_at (g := ⟨src, dst, t⟩) HTL.out HNA.out.1 HNA.out.2)
                  have z1 := blk_frozen T2.out.o (2 + na * 6 + nb)
                  have b1 : (na : Int) < 6 := by have := HNA.out; omega
                  have b2 : (nb : Int) < 6 := by have := HNA.out; omega
                  have b3 : (0 : Int) ≤ (na : Int) := by omega
                  have b4 : (0 : Int) ≤ (nb : Int) := by omega
                  have hmx := max2_run (tat t na nb) 1
                  go_region
                  clear y0 y1 z0 z1 b1 b2 b3 b4 hmx
                  go_wp2
                  go_roundg (arcs.length - i - 1)
                  case measure => have := HK.out; omega
                  case rel => exact ⟨i + 1, setA t ⟨na, nb, false⟩, by go_num, ⟨by omega⟩, ⟨by rw [setA_len]; exact HTL.out⟩, ⟨HT.out.trans HX.out⟩, ⟨by rw [HSA.out, ← cG_set ⟨src, dst, t⟩ na nb]; exact (T2.out.set _ _).go (below_drew1 (Below.refl _ _))⟩⟩
      · have hdx : decide ((i : Int) < (arcs.length : Int)) = false := decide_eq_false (by omega)
        have HTC := Aside0.mk (cG_size' (g := ⟨src, dst, t⟩) HTL.out)
        have HT1 := Aside0.mk (cG_one ⟨src, dst, t⟩)
        have T2 := T1
        have HX := Aside0.mk (show readT (arcs.drop i) t = (t, true) by rw [List.drop_eq_nil_of_le (by omega)]; rfl)
        clear T1
        have HV := Aside0.mk (show vG ⟨src, dst, t⟩ = .agg (cG ⟨src, dst, t⟩) from rfl)
        generalize cG ⟨src, dst, t⟩ = ct at HTC HT1 T2 HV
        go_wp2_with (first | ((with_reducible refine gate_load (t := 81) (x := .tmp 4) rfl ?_); refine load_whole rfl rfl ob 81 ct _ (by rfl) T2.out.o Try.underlying81 rfl (by rw [HTC.out]; kernel_rfl) ?_) | ((with_reducible refine gate_store (t := 81) (p := 2) rfl ?_); refine store_whole rfl rfl rfl zb 81 zc ct (by rfl) (by rfl) T2.out.z (by rw [HTC.out]; kernel_rfl) (HZS.out.trans HTC.out.symm) HT1.out ?_))
        refine bodyPost_ret (v := .tuple #[.agg ct, .bool true]) (results_cell2 rfl _ (by rfl) (setRow_at _ zb ct zc 81 T2.out.z) rfl Try.underlying81 (by rw [HTC.out]; kernel_rfl) (by rfl)) rfl ?_
        exact ⟨by rw [HR.out, HT.out, HX.out]; show _ = Ending.returned (.tuple #[vG _, _]); rw [HV.out], below_setRow' T2.out.below T2.out.ge.1⟩
end Go.Proofs.Ytiepinfcndefhaa.S
