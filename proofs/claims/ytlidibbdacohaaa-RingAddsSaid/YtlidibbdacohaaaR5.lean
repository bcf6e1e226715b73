import Derived.Test.YtlidibbdacohaaaR4
import Derived.Test.YtlidibbdacohaaaPRingEqualsxf48
import Derived.Test.YtlidibbdacohaaaPRingEqualsxf49
import Derived.Test.YtlidibbdacohaaaPRingEqualsxf19
import Derived.Test.YtlidibbdacohaaaPRingEqualsxf20
import Derived.Test.YtlidibbdacohaaaV
import Derived.ChangeSame
import Derived.ChangeArms
import Derived.ChangeSlices
import Derived.DataReads
import Derived.Deep.Strs
/- Expressions that a law makes. The law's awake. What arguments read as data are: expressions, rows of integers. What big answers. No condition. -/
namespace Go.Proofs.Ytlidibbdacohaaa.R
section
open Go.RowKit Go.Maps Go.Proofs.Ytlidibbdacohaaa.PRingEquals Go.Proofs.YtlidibbdacohaaaW.PrintWords Go.Proofs.YtlidibbdacohaaaW.PrintLast Go.Proofs.YtlidibbdacohaaaW.PrintMore
set_option linter.unusedVariables false
set_option linter.unusedSimpArgs false

/-- A struct's cells that read as an expression, through blocks of S alone. -/
def Sm (w : World) (S : Nat → Prop) (x : S24) (cx : Array Value) : Prop := ∃ A c, cx = sV x A c ∧ x.f2.length ≤ c ∧ Kd.F k24 w S A x.f2.length x.f2
section
variable {w w1 : World} {S S' : Nat → Prop} {x : S24} {cx : Array Value}
theorem Sm.of {A : Option Addr} {c : Nat} (hc : x.f2.length ≤ c) (h : Kd.C k24 w A x.f2.length x.f2) : Sm w (fun k => k < w.heap.size) x (sV x A c) := ⟨A, c, rfl, hc, Kd.C_F k24_heap h⟩
theorem Sm.mono (h : Sm w S x cx) (hs : ∀ k, S k → S' k) : Sm w S' x cx := by
  obtain ⟨A, c, e, hc, hf⟩ := h
  exact ⟨A, c, e, hc, Kd.F_mono hf hs⟩
theorem Sm.bound (h : Sm w S x cx) : Sm w (fun k => S k ∧ k < w.heap.size) x cx := by
  obtain ⟨A, c, e, hc, hf⟩ := h
  exact ⟨A, c, e, hc, Kd.F_bound hf⟩
theorem Sm.below (h : Sm w S x cx) (hb : Below w.heap.size w w1) : Sm w1 S x cx := by
  obtain ⟨A, c, e, hc, hf⟩ := h
  exact ⟨A, c, e, hc, Kd.F_below hf hb⟩
theorem Sm.step (h : Sm w S x cx) (hm : ∀ k, S k → k < w.heap.size → w1.heap[k]? = w.heap[k]?) : Sm w1 S x cx := by
  obtain ⟨A, c, e, hc, hf⟩ := h
  exact ⟨A, c, e, hc, Kd.F_step hf hm⟩
theorem Sm.size (h : Sm w S x cx) : cx.size = 3 := by
  obtain ⟨A, c, rfl, _⟩ := h
  rfl
theorem Sm.one (h : Sm w S x cx) : cx.all (·.oneCell') = true := by
  obtain ⟨A, c, rfl, _⟩ := h
  simp [Value.oneCell']
end
theorem v_S (n : Int) (w : World) : Calls Try.prog 48 #[.int .i64 n] w fun e w' => ∃ c, e = .returned (.agg c) ∧ (∀ W S, Sm W S ⟨2, n, []⟩ c) ∧ Below w.heap.size w w' := by
  refine (tenetlaw24_v.calls n 2 n [] w rfl).mono ?_
  rintro e w' ⟨v, rfl, hR, hb⟩
  obtain ⟨A2, c2, rfl, hc2, _⟩ := Kd.N_reads (Kd.R_N hR)
  exact ⟨_, rfl, fun W S => ⟨A2, c2, rfl, hc2, fun W' _ => ⟨rfl, by simp, fun h => absurd h (Nat.lt_irrefl 0)⟩⟩, hb⟩
theorem num_S (n : Int) (w : World) : Calls Try.prog 49 #[.int .i64 n] w fun e w' => ∃ c, e = .returned (.agg c) ∧ (∀ W S, Sm W S ⟨1, n, []⟩ c) ∧ Below w.heap.size w w' := by
  refine (tenetlaw24_num.calls n 1 n [] w rfl).mono ?_
  rintro e w' ⟨v, rfl, hR, hb⟩
  obtain ⟨A2, c2, rfl, hc2, _⟩ := Kd.N_reads (Kd.R_N hR)
  exact ⟨_, rfl, fun W S => ⟨A2, c2, rfl, hc2, fun W' _ => ⟨rfl, by simp, fun h => absurd h (Nat.lt_irrefl 0)⟩⟩, hb⟩
theorem add_S {a b : S24} {S : Nat → Prop} {ca cb : Array Value} {w : World} (ha : Sm w S a ca) (hb : Sm w S b cb) : Calls Try.prog 19 #[.agg ca, .agg cb] w fun e w' => ∃ c, e = .returned (.agg c) ∧ Sm w' (fun k => S k ∨ w.heap.size ≤ k) ⟨3, 0, [a, b]⟩ c ∧ Below w.heap.size w w' := by
  obtain ⟨A, c, rfl, hc, hA⟩ := ha
  obtain ⟨B, d, rfl, hd, hB⟩ := hb
  refine (tenetlaw24_add.calls a.f0 a.f1 S A c a.f2 b.f0 b.f1 S B d b.f2 3 0 [a, b] w (Kd.V_mk hc hA) (Kd.V_mk hd hB) (by cases a; cases b; rfl)).mono ?_
  rintro e w' ⟨v, rfl, hN, hb⟩
  obtain ⟨A2, c2, rfl, hc2, _⟩ := Kd.N_reads hN
  exact ⟨_, rfl, ⟨A2, c2, rfl, hc2, Kd.F_mono (Kd.N_F hN) (fun k h => by
    rcases h with (h | h) | h
    · exact .inl h
    · exact .inl h
    · exact .inr h)⟩, hb⟩
theorem mul_S {a b : S24} {S : Nat → Prop} {ca cb : Array Value} {w : World} (ha : Sm w S a ca) (hb : Sm w S b cb) : Calls Try.prog 20 #[.agg ca, .agg cb] w fun e w' => ∃ c, e = .returned (.agg c) ∧ Sm w' (fun k => S k ∨ w.heap.size ≤ k) ⟨4, 0, [a, b]⟩ c ∧ Below w.heap.size w w' := by
  obtain ⟨A, c, rfl, hc, hA⟩ := ha
  obtain ⟨B, d, rfl, hd, hB⟩ := hb
  refine (tenetlaw24_mul.calls a.f0 a.f1 S A c a.f2 b.f0 b.f1 S B d b.f2 4 0 [a, b] w (Kd.V_mk hc hA) (Kd.V_mk hd hB) (by cases a; cases b; rfl)).mono ?_
  rintro e w' ⟨v, rfl, hN, hb⟩
  obtain ⟨A2, c2, rfl, hc2, _⟩ := Kd.N_reads hN
  exact ⟨_, rfl, ⟨A2, c2, rfl, hc2, Kd.F_mono (Kd.N_F hN) (fun k h => by
    rcases h with (h | h) | h
    · exact .inl h
    · exact .inl h
    · exact .inr h)⟩, hb⟩
theorem equal_S {a b : S24} {r1 : Bool} {r2 : Int} (h : EqualOk a b r1 r2) {S S' : Nat → Prop} {ca cb : Array Value} {w : World} (ha : Sm w S a ca) (hb : Sm w S' b cb) : Calls Try.prog 17 #[.agg ca, .agg cb] w fun e w' => e = .returned (.tuple #[.bool r1, .int .i64 r2]) ∧ Below w.heap.size w w' := by
  obtain ⟨A, c, rfl, hc, hA⟩ := ha
  obtain ⟨B, d, rfl, hd, hB⟩ := hb
  exact h A B c d w (Kd.F_now hA) hc (Kd.F_now hB) hd
def e1 : S24 := ⟨1, 1, []⟩
def e2 : S24 := ⟨1, 2, []⟩
def eX : S24 := ⟨2, 0, []⟩
def eXp : S24 := ⟨3, 0, [eX, e1]⟩
def eA : S24 := ⟨4, 0, [eXp, eXp]⟩
def eXX : S24 := ⟨4, 0, [eX, eX]⟩
def e2X : S24 := ⟨4, 0, [e2, eX]⟩
def eS : S24 := ⟨3, 0, [eXX, e2X]⟩
def eB : S24 := ⟨3, 0, [eS, e1]⟩
abbrev cz24 : Array Value := #[.int .i64 0, .int .i64 0, .slice none 0 0]
theorem zero24 (w : World) : (zeroValue 24).run Try.prog w = .ok (.agg cz24) w := by
  have h : (Try.prog.info? 24).map (fun i => (i.zero, i.size)) = some (some (.agg cz24), 3) := by kernel_rfl
  exact (zero_of_info h).1 w
theorem setRow_ne (W : World) (b : Nat) (cs : Array Value) {k : Nat} (h : k ≠ b) : (W.setRow b cs).heap[k]? = W.heap[k]? := by
  simp only [World.setRow]
  rw [Array.getElem?_modify, if_neg (fun e => h e.symm)]
theorem setRow_size (W : World) (b : Nat) (cs : Array Value) : (W.setRow b cs).heap.size = W.heap.size := by simp [World.setRow]
theorem setRow_at (W : World) (b : Nat) (cs old : Array Value) (t : TypeId) (h : W.heap[b]? = some (.cells old t (0, 0))) : (W.setRow b cs).heap[b]? = some (.cells cs t (0, 0)) := by
  simp [World.setRow, Array.getElem?_modify, h]
theorem below_setRow' {w W : World} {b : Nat} {cs : Array Value} (h : Below w.heap.size w W) (hb : w.heap.size ≤ b) : Below w.heap.size w (W.setRow b cs) :=
  h.trans ⟨rfl, rfl, rfl, by simp [World.setRow], fun k hk => by simp only [World.setRow]; rw [Array.getElem?_modify, if_neg (by omega)]⟩
theorem alloc_run {P : Program} {W : World} {ev : Operand → Value} {o : Oper} {t : TypeId} (ho : o.op = .alloc t) {cz : Array Value} (hz : ∀ w, (zeroValue t).run P w = .ok (.agg cz) w) : (execOp ev o).run P W = .ok (.value (.pointer (some ⟨W.heap.size, 0, none⟩))) (W.alloc (.cells cz t)) := by
  simp [execOp, ho, hz, go_sem, Value.cells, Result.andThen]
theorem store_run {P : Program} {W : World} {ev : Operand → Value} {o : Oper} {ty : TypeId} {x v : Operand} (ho : o.op = .store ty x v) {b : Nat} {t : TypeId} {old cs : Array Value} (hx : ev x = .pointer (some ⟨b, 0, none⟩)) (hv : ev v = .agg cs) (hb : W.heap[b]? = some (.cells old t))
    (hi : (P.info? ty).map (·.size) = some cs.size) (hs : old.size = cs.size) (h1 : cs.all (·.oneCell') = true) : (execOp ev o).run P W = .ok .skip (W.setRow b cs) := by
  have hr := run_storeVar_row (P := P) W b t ty old cs hb hi hs h1
  simp [execOp, ho, hx, hv, Instr.storeAt, Instr.sureAddr, Sem.run_bind, Sem.run_pure, Result.andThen, hr]
/-- The block of a variable that is laid in a region. -/
def GaP (w w' : World) (ga : Option Nat) (gv : Value) (g1 : Nat) (c : Array Value) : Prop := ∃ g, ga = some g ∧ gv = .pointer (some ⟨g, 0, none⟩) ∧ w'.heap[g]? = some (.cells c 24 (0, 0)) ∧ w.heap.size ≤ g ∧ g ≠ g1
theorem GaP.below {w w' w1 : World} {ga : Option Nat} {gv : Value} {g1 : Nat} {c : Array Value} (h : GaP w w' ga gv g1 c) (hb : Below w'.heap.size w' w1) : GaP w w1 ga gv g1 c := by
  obtain ⟨g, a1, a2, a3, a4, a5⟩ := h
  exact ⟨g, a1, a2, blk_below a3 hb, a4, a5⟩
theorem sm_new {ga : Option Nat} {n : Nat} (h : ∀ g, ga = some g → g < n) : ∀ k, (some k ≠ ga ∨ n ≤ k) → some k ≠ ga := fun k hk e => by
  rcases hk with hk | hk
  · exact hk e
  · have := h k e.symm
    omega
theorem sm_alloc {w : World} {S : Nat → Prop} {x : S24} {c : Array Value} {o : Obj} (h : Sm w S x c) : Sm (w.alloc o) (fun k => some k ≠ some w.heap.size) x c :=
  (h.bound.mono (fun k hk e => by injection e with e; have := hk.2; omega)).below (below_alloc (Below.refl _ _) o)
theorem add1 : addF (varF 0) (numF 1) = some [([1, 0, 0, 0, 0, 0, 0, 0], 1), ([0, 0, 0, 0, 0, 0, 0, 0], 1)] := by decide
theorem eXp_nr : Nr eXp (some [([1, 0, 0, 0, 0, 0, 0, 0], 1), ([0, 0, 0, 0, 0, 0, 0, 0], 1)]) := by
  rw [← add1]
  exact .add .var .num
abbrev pol : Po := [([2, 0, 0, 0, 0, 0, 0, 0], 1), ([1, 0, 0, 0, 0, 0, 0, 0], 2), ([0, 0, 0, 0, 0, 0, 0, 0], 1)]
theorem eA_nr : Nr eA (some pol) := by
  have h : mulF [([1, 0, 0, 0, 0, 0, 0, 0], 1), ([0, 0, 0, 0, 0, 0, 0, 0], 1)] [([1, 0, 0, 0, 0, 0, 0, 0], 1), ([0, 0, 0, 0, 0, 0, 0, 0], 1)] = some pol := by rfl
  rw [← h]
  exact .mul eXp_nr eXp_nr
theorem eB_nr : Nr eB (some pol) := by
  have h1 : mulF (varF 0) (varF 0) = some [([2, 0, 0, 0, 0, 0, 0, 0], 1)] := by rfl
  have h2 : mulF (numF 2) (varF 0) = some [([1, 0, 0, 0, 0, 0, 0, 0], 2)] := by rfl
  have h3 : addF [([2, 0, 0, 0, 0, 0, 0, 0], 1)] [([1, 0, 0, 0, 0, 0, 0, 0], 2)] = some [([2, 0, 0, 0, 0, 0, 0, 0], 1), ([1, 0, 0, 0, 0, 0, 0, 0], 2)] := by rfl
  have h4 : addF [([2, 0, 0, 0, 0, 0, 0, 0], 1), ([1, 0, 0, 0, 0, 0, 0, 0], 2)] (numF 1) = some pol := by rfl
  have n1 : Nr eXX (some [([2, 0, 0, 0, 0, 0, 0, 0], 1)]) := by rw [← h1]; exact .mul .var .var
  have n2 : Nr e2X (some [([1, 0, 0, 0, 0, 0, 0, 0], 2)]) := by rw [← h2]; exact .mul .num .var
  have n3 : Nr eS (some [([2, 0, 0, 0, 0, 0, 0, 0], 1), ([1, 0, 0, 0, 0, 0, 0, 0], 2)]) := by rw [← h3]; exact .add n1 n2
  rw [← h4]
  exact .add n3 .num
theorem eA_vd : Vd eA := by
  refine ⟨?_, ?_, .mul (.add (.var (by decide) (by decide)) (.num (by decide) (by decide))) (.add (.var (by decide) (by decide)) (.num (by decide) (by decide)))⟩
  · simp [eA, eXp, eX, e1, nod_eq, nods_cons, nods_nil]
  · simp [eA, eXp, eX, e1, dep_eq, deps_cons, deps_nil]
theorem eB_vd : Vd eB := by
  refine ⟨?_, ?_, .add (.add (.mul (.var (by decide) (by decide)) (.var (by decide) (by decide))) (.mul (.num (by decide) (by decide)) (.var (by decide) (by decide)))) (.num (by decide) (by decide))⟩
  · simp [eB, eS, eXX, e2X, eX, e1, e2, nod_eq, nods_cons, nods_nil]
  · simp [eB, eS, eXX, e2X, eX, e1, e2, dep_eq, deps_cons, deps_nil]
theorem awake_eq : EqualOk eA eB true 0 := by
  obtain ⟨r1, r2, h, k⟩ := equal_all eA eB (Nat.le_trans eA_vd.1 (by decide)) (Nat.le_trans eB_vd.1 (by decide))
  obtain ⟨rfl, rfl⟩ := h.det (.inr ⟨eA_vd, eB_vd, _, _, eA_nr, eB_nr, .inr ⟨_, _, rfl, rfl, (decide_eq_true rfl).symm, rfl⟩⟩)
  exact k

def ring_awake.T2 : Bool × List (List Nat × List Nat) := (true, [([], []), ([], []), ([0, 1, 1], [0, 1]), ([], []), ([2], []), ([3, 4, 4], [3, 4]), ([2, 5, 5], [2, 5]), ([], []), ([7, 6, 6, 0, 1, 2, 3, 4, 5, 6, 7], [6, 7])])
def ring_awake.B2 : List Nat := [0, 0, 3, 0, 7, 31, 63, 0, 255]
theorem ring_awake.tab2 : rtab .any (opsOf Try.f16 2) = ring_awake.T2 := by kernel_rfl
theorem ring_awake.bits2 : waitsOk ring_awake.T2.2 ring_awake.B2 = true := by kernel_rfl
def ring_awake.T3 : Bool × List (List Nat × List Nat) := (true, [([], []), ([], []), ([0, 1], [0, 1]), ([2], []), ([], []), ([3, 4, 3], [3, 4]), ([2, 5, 5], [2, 5]), ([6], []), ([6, 7, 7], [6, 7]), ([], []), ([9, 8, 8, 0, 1, 2, 3, 4, 5, 6, 7, 8, 9], [8, 9])])
def ring_awake.B3 : List Nat := [0, 0, 3, 7, 0, 31, 63, 127, 255, 0, 1023]
theorem ring_awake.tab3 : rtab .any (opsOf Try.f16 3) = ring_awake.T3 := by kernel_rfl
theorem ring_awake.bits3 : waitsOk ring_awake.T3.2 ring_awake.B3 = true := by kernel_rfl

set_option maxHeartbeats 4000000 in
set_option maxRecDepth 100000 in
theorem awake_calls (w : World) : Calls Try.prog 16 #[] w fun e w' => e = .returned (.bool true) ∧ Below w.heap.size w w' := by
  have HE := Aside0.mk awake_eq
  go_enter Try.func16, Try.ntmps16
  go_wp2_with (first | (go_at_call 59; skip))
  refine (v_S 0 _).mono ?_
  rintro e w5 ⟨cx, rfl, hsx, hb5⟩
  have HX : Aside0 (∀ W S, Sm W S eX cx) := ⟨hsx⟩
  have HX3 := Aside0.mk (hsx w5 (fun _ => True)).size
  have HX1 := Aside0.mk (hsx w5 (fun _ => True)).one
  have HB := Aside0.mk (below_step hb5 (below_alloc (Below.refl w5.heap.size w5) (.cells cx 24)))
  have X1 := Aside0.mk (blk_new w5 (.cells cx 24))
  clear hsx hb5
  go_wp2_with (first | ((with_reducible refine gate_alloc (t := 24) rfl ?_); refine alloc_zero rfl rfl cz24 zero24 ?_) | ((with_reducible refine gate_store (t := 24) (p := 1) rfl ?_); refine store_last rfl rfl rfl _ 24 _ cx (by rfl) (by rfl) rfl (by rw [HX3.out]; kernel_rfl) (by rw [HX3.out]; rfl) HX1.out ?_))
  generalize w5.alloc (.cells cx 24) = w1 at HB X1 ⊢
  generalize w5.heap.size = g1 at X1 ⊢
  clear HX1
  have HT_ := Aside0.mk ring_awake.tab2
  have HW_ := Aside0.mk ring_awake.bits2
  have GL := trivial
  have GN := trivial

  refine start_ (n := 9) (S := fun w' => True) (ds := []) #[false, false, false, false, false, false, false, false, false] (by kernel_rfl) rfl rfl trivial (fun hHeld => ?_)
  refine with_tabW ring_awake.tab2 ring_awake.bits2 (fun HT_ HW_ => ?_)
  refine inv_at [0, 1, 2, 3, 4, 5, 6, 7, 8] (fun a0_ b a w' => ∃ (c8 : Array Value) (c9 : Array Value) (c11 : Array Value) (c12 : Array Value) (c13 : Array Value) (gv : Value) (ga : Option Nat) (m1_ : Value) (m2_ : Value) (m4_ : Value) (m5_ : Value) (m6_ : Value), a = putSel a0_ b [(0, 7, .agg cx), (1, 8, m1_), (2, 9, m2_), (3, 10, .agg cx), (4, 11, m4_), (5, 12, m5_), (6, 13, m6_), (7, 2, gv)] ∧ (Below w.heap.size w w') ∧ (w'.heap[g1]? = some (.cells cx 24 (0, 0))) ∧ (∀ g, ga = some g → g < w'.heap.size) ∧ (b 7 = false → ga = none) ∧ (b 1 = true → ∀ W S, Sm W S e1 c8) ∧ (b 2 = true → Sm w' (fun k => some k ≠ ga) eXp c9) ∧ (b 4 = true → ∀ W S, Sm W S e1 c11) ∧ (b 5 = true → Sm w' (fun k => some k ≠ ga) eXp c12) ∧ (b 6 = true → Sm w' (fun k => some k ≠ ga) eA c13) ∧ (b 7 = true → b 8 = false → GaP w w' ga gv g1 cz24) ∧ (b 8 = true → GaP w w' ga gv g1 c13) ∧ (b 1 = true → (m1_ : Value) = .agg c8) ∧ (b 2 = true → (m2_ : Value) = .agg c9) ∧ (b 4 = true → (m4_ : Value) = .agg c11) ∧ (b 5 = true → (m5_ : Value) = .agg c12) ∧ (b 6 = true → (m6_ : Value) = .agg c13)) HT_.out HW_.out (by kernel_rfl) (by kernel_rfl) ?_ ?_ ?_
  · exact ⟨#[], #[], #[], #[], #[], .bool false, none, .bool false, .bool false, .bool false, .bool false, .bool false, by simp only [putSel, Bool.false_eq_true, if_false], (below_drew HB.out), (blk_drew X1.out), (fun g h => by cases h), fun _ => rfl, fun h_ => absurd h_ (by decide), fun h_ => absurd h_ (by decide), fun h_ => absurd h_ (by decide), fun h_ => absurd h_ (by decide), fun h_ => absurd h_ (by decide), fun h_ => absurd h_ (by decide), fun h_ => absurd h_ (by decide), fun h_ => absurd h_ (by decide), fun h_ => absurd h_ (by decide), fun h_ => absurd h_ (by decide), fun h_ => absurd h_ (by decide), fun h_ => absurd h_ (by decide)⟩
  · skip
    clear GL GN HB X1
    refine steps_cons ?_ ?_
    · rintro b a w' ⟨c8, c9, c11, c12, c13, gv, ga, m1_, m2_, m4_, m5_, m6_, ha, Q_HB, Q_X1, Q_GL, Q_GN, Q_Sc8, Q_Sc9, Q_Sc11, Q_Sc12, Q_Sc13, Q_GA, Q_GB, Q_X1_, Q_X2_, Q_X4_, Q_X5_, Q_X6_⟩ hb_ hon hoff
      refine ⟨_, rfl, fun K hK => ?_⟩
      have e1 : a.tmps[1]? = some (.pointer (some ⟨g1, 0, none⟩)) := by rw [ha]; exact (putSel_off rfl).trans rfl
      replace ha := Aside0.mk ha
      have HB := Aside0.mk Q_HB
      have X1 := Aside0.mk Q_X1
      have GL := Aside0.mk Q_GL
      refine value_ (w1 := w') (v := .agg cx) (by rfl) rfl ?_ ?_
      · exact load_run (ty := 24) (x := .tmp 1) (b := g1) (t := 24) (cs := cx) rfl (by first | (simp only [List.map_toArray, List.map_cons, List.map_nil, Act.eval, Array.getD_eq_getD_getElem?, Option.getD_some, e1]; done) | (simp only [List.map_toArray, List.map_cons, List.map_nil, Act.eval, Array.getD_eq_getD_getElem?, Option.getD_some, e1]; rfl)) X1.out rfl Try.underlying24 (by rw [HX3.out]; kernel_rfl)
      refine hK.out _ _ ⟨c8, c9, c11, c12, c13, gv, ga, m1_, m2_, m4_, m5_, m6_, (by rw [ha.out]; exact putSel_upk 0 hb_ rfl rfl rfl), HB.out, X1.out, GL.out, fun h0_ => (Q_GN h0_), fun h0_ => (Q_Sc8 h0_), fun h0_ => absurd ((hoff 2 (by kernel_rfl)).symm.trans h0_) (by decide), fun h0_ => absurd ((hoff 4 (by kernel_rfl)).symm.trans h0_) (by decide), fun h0_ => absurd ((hoff 5 (by kernel_rfl)).symm.trans h0_) (by decide), fun h0_ => absurd ((hoff 6 (by kernel_rfl)).symm.trans h0_) (by decide), fun h0_ h1_ => (Q_GA h0_ h1_), fun h0_ => absurd ((hoff 8 (by kernel_rfl)).symm.trans h0_) (by decide), Q_X1_, fun h0_ => absurd ((hoff 2 (by kernel_rfl)).symm.trans h0_) (by decide), fun h0_ => absurd ((hoff 4 (by kernel_rfl)).symm.trans h0_) (by decide), fun h0_ => absurd ((hoff 5 (by kernel_rfl)).symm.trans h0_) (by decide), fun h0_ => absurd ((hoff 6 (by kernel_rfl)).symm.trans h0_) (by decide)⟩
    refine steps_cons ?_ ?_
    · rintro b a w' ⟨c8, c9, c11, c12, c13, gv, ga, m1_, m2_, m4_, m5_, m6_, ha, Q_HB, Q_X1, Q_GL, Q_GN, Q_Sc8, Q_Sc9, Q_Sc11, Q_Sc12, Q_Sc13, Q_GA, Q_GB, Q_X1_, Q_X2_, Q_X4_, Q_X5_, Q_X6_⟩ hb_ hon hoff
      refine ⟨_, rfl, fun K hK => ?_⟩
      replace ha := Aside0.mk ha
      have HB := Aside0.mk Q_HB
      have X1 := Aside0.mk Q_X1
      have GL := Aside0.mk Q_GL
      refine goes_ Try.func49 (by kernel_rfl) rfl #[.int .i64 1] (by rfl) rfl rfl (by first | (simp only [List.map_toArray, List.map_cons, List.map_nil, Act.eval, Array.getD_eq_getD_getElem?, Option.getD_some]; done) | (simp only [List.map_toArray, List.map_cons, List.map_nil, Act.eval, Array.getD_eq_getD_getElem?, Option.getD_some]; rfl)) ?_
      refine (num_S 1 _).mono ?_
      rintro e5 w5 ⟨cn, rfl, hsn, hb5⟩
      refine ⟨_, rfl, ?_⟩
      refine hK.out _ _ ⟨cn, c9, c11, c12, c13, gv, ga, (.agg cn), m2_, m4_, m5_, m6_, (by rw [ha.out]; exact putSel_upk 1 hb_ rfl rfl rfl), (below_step HB.out hb5), (blk_below X1.out hb5), (fun g h => Nat.lt_of_lt_of_le (GL.out g h) hb5.size), fun h0_ => (Q_GN h0_), fun _ => hsn, fun h0_ => absurd ((hoff 2 (by kernel_rfl)).symm.trans h0_) (by decide), fun h0_ => absurd ((hoff 4 (by kernel_rfl)).symm.trans h0_) (by decide), fun h0_ => absurd ((hoff 5 (by kernel_rfl)).symm.trans h0_) (by decide), fun h0_ => absurd ((hoff 6 (by kernel_rfl)).symm.trans h0_) (by decide), fun h0_ h1_ => ((Q_GA h0_ h1_).below hb5), fun h0_ => absurd ((hoff 8 (by kernel_rfl)).symm.trans h0_) (by decide), fun _ => rfl, fun h0_ => absurd ((hoff 2 (by kernel_rfl)).symm.trans h0_) (by decide), fun h0_ => absurd ((hoff 4 (by kernel_rfl)).symm.trans h0_) (by decide), fun h0_ => absurd ((hoff 5 (by kernel_rfl)).symm.trans h0_) (by decide), fun h0_ => absurd ((hoff 6 (by kernel_rfl)).symm.trans h0_) (by decide)⟩
    refine steps_cons ?_ ?_
    · rintro b a w' ⟨c8, c9, c11, c12, c13, gv, ga, m1_, m2_, m4_, m5_, m6_, ha, Q_HB, Q_X1, Q_GL, Q_GN, Q_Sc8, Q_Sc9, Q_Sc11, Q_Sc12, Q_Sc13, Q_GA, Q_GB, Q_X1_, Q_X2_, Q_X4_, Q_X5_, Q_X6_⟩ hb_ hon hoff
      refine ⟨_, rfl, fun K hK => ?_⟩
      have e7 : a.tmps[7]? = some (.agg cx) := by rw [ha]; exact putSel_on (e := (0, 7, .agg cx)) 0 rfl rfl (hon 0 (by kernel_rfl)) rfl
      have e8 : a.tmps[8]? = some (m1_) := by rw [ha]; exact putSel_on (e := (1, 8, m1_)) 1 rfl rfl (hon 1 (by kernel_rfl)) rfl
      rw [Q_X1_ (hon 1 (by kernel_rfl))] at e8
      replace ha := Aside0.mk ha
      have HB := Aside0.mk Q_HB
      have X1 := Aside0.mk Q_X1
      have GL := Aside0.mk Q_GL
      have Sc8 := Aside0.mk (Q_Sc8 (hon 1 (by kernel_rfl)))
      refine goes_ Try.func19 (by kernel_rfl) rfl #[.agg cx, .agg c8] (by rfl) rfl rfl (by first | (simp only [List.map_toArray, List.map_cons, List.map_nil, Act.eval, Array.getD_eq_getD_getElem?, Option.getD_some, e7, e8]; done) | (simp only [List.map_toArray, List.map_cons, List.map_nil, Act.eval, Array.getD_eq_getD_getElem?, Option.getD_some, e7, e8]; rfl)) ?_
      refine (add_S (S := (fun k => some k ≠ ga)) (HX.out _ _) (Sc8.out _ _)).mono ?_
      rintro e5 w5 ⟨cn, rfl, hsn, hb5⟩
      refine ⟨_, rfl, ?_⟩
      refine hK.out _ _ ⟨c8, cn, c11, c12, c13, gv, ga, m1_, (.agg cn), m4_, m5_, m6_, (by rw [ha.out]; exact putSel_upk 2 hb_ rfl rfl rfl), (below_step HB.out hb5), (blk_below X1.out hb5), (fun g h => Nat.lt_of_lt_of_le (GL.out g h) hb5.size), fun h0_ => (Q_GN h0_), fun _ => Sc8.out, fun _ => (hsn.mono (sm_new GL.out)), fun h0_ => absurd ((hoff 4 (by kernel_rfl)).symm.trans h0_) (by decide), fun h0_ => absurd ((hoff 5 (by kernel_rfl)).symm.trans h0_) (by decide), fun h0_ => absurd ((hoff 6 (by kernel_rfl)).symm.trans h0_) (by decide), fun h0_ h1_ => ((Q_GA h0_ h1_).below hb5), fun h0_ => absurd ((hoff 8 (by kernel_rfl)).symm.trans h0_) (by decide), Q_X1_, fun _ => rfl, fun h0_ => absurd ((hoff 4 (by kernel_rfl)).symm.trans h0_) (by decide), fun h0_ => absurd ((hoff 5 (by kernel_rfl)).symm.trans h0_) (by decide), fun h0_ => absurd ((hoff 6 (by kernel_rfl)).symm.trans h0_) (by decide)⟩
    refine steps_cons ?_ ?_
    · rintro b a w' ⟨c8, c9, c11, c12, c13, gv, ga, m1_, m2_, m4_, m5_, m6_, ha, Q_HB, Q_X1, Q_GL, Q_GN, Q_Sc8, Q_Sc9, Q_Sc11, Q_Sc12, Q_Sc13, Q_GA, Q_GB, Q_X1_, Q_X2_, Q_X4_, Q_X5_, Q_X6_⟩ hb_ hon hoff
      refine ⟨_, rfl, fun K hK => ?_⟩
      have e1 : a.tmps[1]? = some (.pointer (some ⟨g1, 0, none⟩)) := by rw [ha]; exact (putSel_off rfl).trans rfl
      replace ha := Aside0.mk ha
      have HB := Aside0.mk Q_HB
      have X1 := Aside0.mk Q_X1
      have GL := Aside0.mk Q_GL
      refine value_ (w1 := w') (v := .agg cx) (by rfl) rfl ?_ ?_
      · exact load_run (ty := 24) (x := .tmp 1) (b := g1) (t := 24) (cs := cx) rfl (by first | (simp only [List.map_toArray, List.map_cons, List.map_nil, Act.eval, Array.getD_eq_getD_getElem?, Option.getD_some, e1]; done) | (simp only [List.map_toArray, List.map_cons, List.map_nil, Act.eval, Array.getD_eq_getD_getElem?, Option.getD_some, e1]; rfl)) X1.out rfl Try.underlying24 (by rw [HX3.out]; kernel_rfl)
      refine hK.out _ _ ⟨c8, c9, c11, c12, c13, gv, ga, m1_, m2_, m4_, m5_, m6_, (by rw [ha.out]; exact putSel_upk 3 hb_ rfl rfl rfl), HB.out, X1.out, GL.out, fun h0_ => (Q_GN h0_), fun h0_ => (Q_Sc8 h0_), fun h0_ => (Q_Sc9 h0_), fun h0_ => (Q_Sc11 h0_), fun h0_ => absurd ((hoff 5 (by kernel_rfl)).symm.trans h0_) (by decide), fun h0_ => absurd ((hoff 6 (by kernel_rfl)).symm.trans h0_) (by decide), fun h0_ h1_ => (Q_GA h0_ h1_), fun h0_ => absurd ((hoff 8 (by kernel_rfl)).symm.trans h0_) (by decide), Q_X1_, Q_X2_, Q_X4_, fun h0_ => absurd ((hoff 5 (by kernel_rfl)).symm.trans h0_) (by decide), fun h0_ => absurd ((hoff 6 (by kernel_rfl)).symm.trans h0_) (by decide)⟩
    refine steps_cons ?_ ?_
    · rintro b a w' ⟨c8, c9, c11, c12, c13, gv, ga, m1_, m2_, m4_, m5_, m6_, ha, Q_HB, Q_X1, Q_GL, Q_GN, Q_Sc8, Q_Sc9, Q_Sc11, Q_Sc12, Q_Sc13, Q_GA, Q_GB, Q_X1_, Q_X2_, Q_X4_, Q_X5_, Q_X6_⟩ hb_ hon hoff
      refine ⟨_, rfl, fun K hK => ?_⟩
      replace ha := Aside0.mk ha
      have HB := Aside0.mk Q_HB
      have X1 := Aside0.mk Q_X1
      have GL := Aside0.mk Q_GL
      have Sc8 := Aside0.mk (Q_Sc8 (hon 1 (by kernel_rfl)))
      have Sc9 := Aside0.mk (Q_Sc9 (hon 2 (by kernel_rfl)))
      refine goes_ Try.func49 (by kernel_rfl) rfl #[.int .i64 1] (by rfl) rfl rfl (by first | (simp only [List.map_toArray, List.map_cons, List.map_nil, Act.eval, Array.getD_eq_getD_getElem?, Option.getD_some]; done) | (simp only [List.map_toArray, List.map_cons, List.map_nil, Act.eval, Array.getD_eq_getD_getElem?, Option.getD_some]; rfl)) ?_
      refine (num_S 1 _).mono ?_
      rintro e5 w5 ⟨cn, rfl, hsn, hb5⟩
      refine ⟨_, rfl, ?_⟩
      refine hK.out _ _ ⟨c8, c9, cn, c12, c13, gv, ga, m1_, m2_, (.agg cn), m5_, m6_, (by rw [ha.out]; exact putSel_upk 4 hb_ rfl rfl rfl), (below_step HB.out hb5), (blk_below X1.out hb5), (fun g h => Nat.lt_of_lt_of_le (GL.out g h) hb5.size), fun h0_ => (Q_GN h0_), fun _ => Sc8.out, fun _ => (Sc9.out.below hb5), fun _ => hsn, fun h0_ => absurd ((hoff 5 (by kernel_rfl)).symm.trans h0_) (by decide), fun h0_ => absurd ((hoff 6 (by kernel_rfl)).symm.trans h0_) (by decide), fun h0_ h1_ => ((Q_GA h0_ h1_).below hb5), fun h0_ => absurd ((hoff 8 (by kernel_rfl)).symm.trans h0_) (by decide), Q_X1_, Q_X2_, fun _ => rfl, fun h0_ => absurd ((hoff 5 (by kernel_rfl)).symm.trans h0_) (by decide), fun h0_ => absurd ((hoff 6 (by kernel_rfl)).symm.trans h0_) (by decide)⟩
    refine steps_cons ?_ ?_
    · rintro b a w' ⟨c8, c9, c11, c12, c13, gv, ga, m1_, m2_, m4_, m5_, m6_, ha, Q_HB, Q_X1, Q_GL, Q_GN, Q_Sc8, Q_Sc9, Q_Sc11, Q_Sc12, Q_Sc13, Q_GA, Q_GB, Q_X1_, Q_X2_, Q_X4_, Q_X5_, Q_X6_⟩ hb_ hon hoff
      refine ⟨_, rfl, fun K hK => ?_⟩
      have e10 : a.tmps[10]? = some (.agg cx) := by rw [ha]; exact putSel_on (e := (3, 10, .agg cx)) 3 rfl rfl (hon 3 (by kernel_rfl)) rfl
      have e11 : a.tmps[11]? = some (m4_) := by rw [ha]; exact putSel_on (e := (4, 11, m4_)) 4 rfl rfl (hon 4 (by kernel_rfl)) rfl
      rw [Q_X4_ (hon 4 (by kernel_rfl))] at e11
      replace ha := Aside0.mk ha
      have HB := Aside0.mk Q_HB
      have X1 := Aside0.mk Q_X1
      have GL := Aside0.mk Q_GL
      have Sc8 := Aside0.mk (Q_Sc8 (hon 1 (by kernel_rfl)))
      have Sc9 := Aside0.mk (Q_Sc9 (hon 2 (by kernel_rfl)))
      have Sc11 := Aside0.mk (Q_Sc11 (hon 4 (by kernel_rfl)))
      refine goes_ Try.func19 (by kernel_rfl) rfl #[.agg cx, .agg c11] (by rfl) rfl rfl (by first | (simp only [List.map_toArray, List.map_cons, List.map_nil, Act.eval, Array.getD_eq_getD_getElem?, Option.getD_some, e10, e11]; done) | (simp only [List.map_toArray, List.map_cons, List.map_nil, Act.eval, Array.getD_eq_getD_getElem?, Option.getD_some, e10, e11]; rfl)) ?_
      refine (add_S (S := (fun k => some k ≠ ga)) (HX.out _ _) (Sc11.out _ _)).mono ?_
      rintro e5 w5 ⟨cn, rfl, hsn, hb5⟩
      refine ⟨_, rfl, ?_⟩
      refine hK.out _ _ ⟨c8, c9, c11, cn, c13, gv, ga, m1_, m2_, m4_, (.agg cn), m6_, (by rw [ha.out]; exact putSel_upk 5 hb_ rfl rfl rfl), (below_step HB.out hb5), (blk_below X1.out hb5), (fun g h => Nat.lt_of_lt_of_le (GL.out g h) hb5.size), fun h0_ => (Q_GN h0_), fun _ => Sc8.out, fun _ => (Sc9.out.below hb5), fun _ => Sc11.out, fun _ => (hsn.mono (sm_new GL.out)), fun h0_ => absurd ((hoff 6 (by kernel_rfl)).symm.trans h0_) (by decide), fun h0_ h1_ => ((Q_GA h0_ h1_).below hb5), fun h0_ => absurd ((hoff 8 (by kernel_rfl)).symm.trans h0_) (by decide), Q_X1_, Q_X2_, Q_X4_, fun _ => rfl, fun h0_ => absurd ((hoff 6 (by kernel_rfl)).symm.trans h0_) (by decide)⟩
    refine steps_cons ?_ ?_
    · rintro b a w' ⟨c8, c9, c11, c12, c13, gv, ga, m1_, m2_, m4_, m5_, m6_, ha, Q_HB, Q_X1, Q_GL, Q_GN, Q_Sc8, Q_Sc9, Q_Sc11, Q_Sc12, Q_Sc13, Q_GA, Q_GB, Q_X1_, Q_X2_, Q_X4_, Q_X5_, Q_X6_⟩ hb_ hon hoff
      refine ⟨_, rfl, fun K hK => ?_⟩
      have e9 : a.tmps[9]? = some (m2_) := by rw [ha]; exact putSel_on (e := (2, 9, m2_)) 2 rfl rfl (hon 2 (by kernel_rfl)) rfl
      rw [Q_X2_ (hon 2 (by kernel_rfl))] at e9
      have e12 : a.tmps[12]? = some (m5_) := by rw [ha]; exact putSel_on (e := (5, 12, m5_)) 5 rfl rfl (hon 5 (by kernel_rfl)) rfl
      rw [Q_X5_ (hon 5 (by kernel_rfl))] at e12
      replace ha := Aside0.mk ha
      have HB := Aside0.mk Q_HB
      have X1 := Aside0.mk Q_X1
      have GL := Aside0.mk Q_GL
      have Sc8 := Aside0.mk (Q_Sc8 (hon 1 (by kernel_rfl)))
      have Sc9 := Aside0.mk (Q_Sc9 (hon 2 (by kernel_rfl)))
      have Sc11 := Aside0.mk (Q_Sc11 (hon 4 (by kernel_rfl)))
      have Sc12 := Aside0.mk (Q_Sc12 (hon 5 (by kernel_rfl)))
      refine goes_ Try.func20 (by kernel_rfl) rfl #[.agg c9, .agg c12] (by rfl) rfl rfl (by first | (simp only [List.map_toArray, List.map_cons, List.map_nil, Act.eval, Array.getD_eq_getD_getElem?, Option.getD_some, e9, e12]; done) | (simp only [List.map_toArray, List.map_cons, List.map_nil, Act.eval, Array.getD_eq_getD_getElem?, Option.getD_some, e9, e12]; rfl)) ?_
      refine (mul_S (S := (fun k => some k ≠ ga)) Sc9.out Sc12.out).mono ?_
      rintro e5 w5 ⟨cn, rfl, hsn, hb5⟩
      refine ⟨_, rfl, ?_⟩
      refine hK.out _ _ ⟨c8, c9, c11, c12, cn, gv, ga, m1_, m2_, m4_, m5_, (.agg cn), (by rw [ha.out]; exact putSel_upk 6 hb_ rfl rfl rfl), (below_step HB.out hb5), (blk_below X1.out hb5), (fun g h => Nat.lt_of_lt_of_le (GL.out g h) hb5.size), fun h0_ => (Q_GN h0_), fun _ => Sc8.out, fun _ => (Sc9.out.below hb5), fun _ => Sc11.out, fun _ => (Sc12.out.below hb5), fun _ => (hsn.mono (sm_new GL.out)), fun h0_ h1_ => ((Q_GA h0_ h1_).below hb5), fun h0_ => absurd ((hoff 8 (by kernel_rfl)).symm.trans h0_) (by decide), Q_X1_, Q_X2_, Q_X4_, Q_X5_, fun _ => rfl⟩
    refine steps_cons ?_ ?_
    · rintro b a w' ⟨c8, c9, c11, c12, c13, gv, ga, m1_, m2_, m4_, m5_, m6_, ha, Q_HB, Q_X1, Q_GL, Q_GN, Q_Sc8, Q_Sc9, Q_Sc11, Q_Sc12, Q_Sc13, Q_GA, Q_GB, Q_X1_, Q_X2_, Q_X4_, Q_X5_, Q_X6_⟩ hb_ hon hoff
      refine ⟨_, rfl, fun K hK => ?_⟩
      replace ha := Aside0.mk ha
      have HB := Aside0.mk Q_HB
      have X1 := Aside0.mk Q_X1
      have GL := Aside0.mk Q_GL
      have GN := Aside0.mk (Q_GN hb_)
      refine value_ (w1 := w'.alloc (.cells cz24 24)) (v := .pointer (some ⟨w'.heap.size, 0, none⟩)) (by rfl) rfl ?_ ?_
      · exact alloc_run rfl zero24
      refine hK.out _ _ ⟨c8, c9, c11, c12, c13, (.pointer (some ⟨w'.heap.size, 0, none⟩)), (some w'.heap.size), m1_, m2_, m4_, m5_, m6_, (by rw [ha.out]; exact putSel_upk 7 hb_ rfl rfl rfl), (below_alloc HB.out _), (blk_alloc X1.out _), (fun g h => by injection h with h; rw [World.size_alloc]; omega), fun h0_ => absurd ((up_self b 7).symm.trans h0_) (by decide), fun h0_ => (Q_Sc8 h0_), fun h0_ => (sm_alloc (Q_Sc9 h0_)), fun h0_ => (Q_Sc11 h0_), fun h0_ => (sm_alloc (Q_Sc12 h0_)), fun h0_ => (sm_alloc (Q_Sc13 h0_)), fun _ _ => ⟨_, rfl, rfl, blk_new _ _, HB.out.size, (by have := heap_lt X1.out; omega)⟩, fun h0_ => absurd ((hoff 8 (by kernel_rfl)).symm.trans h0_) (by decide), Q_X1_, Q_X2_, Q_X4_, Q_X5_, Q_X6_⟩
    refine steps_cons ?_ ?_
    · rintro b a w' ⟨c8, c9, c11, c12, c13, gv, ga, m1_, m2_, m4_, m5_, m6_, ha, Q_HB, Q_X1, Q_GL, Q_GN, Q_Sc8, Q_Sc9, Q_Sc11, Q_Sc12, Q_Sc13, Q_GA, Q_GB, Q_X1_, Q_X2_, Q_X4_, Q_X5_, Q_X6_⟩ hb_ hon hoff
      refine ⟨_, rfl, fun K hK => ?_⟩
      have e2 : a.tmps[2]? = some (gv) := by rw [ha]; exact putSel_on (e := (7, 2, gv)) 7 rfl rfl (hon 7 (by kernel_rfl)) rfl
      have e13 : a.tmps[13]? = some (m6_) := by rw [ha]; exact putSel_on (e := (6, 13, m6_)) 6 rfl rfl (hon 6 (by kernel_rfl)) rfl
      rw [Q_X6_ (hon 6 (by kernel_rfl))] at e13
      replace ha := Aside0.mk ha
      have HB := Aside0.mk Q_HB
      have X1 := Aside0.mk Q_X1
      have GL := Aside0.mk Q_GL
      have Sc8 := Aside0.mk (Q_Sc8 (hon 1 (by kernel_rfl)))
      have Sc9 := Aside0.mk (Q_Sc9 (hon 2 (by kernel_rfl)))
      have Sc11 := Aside0.mk (Q_Sc11 (hon 4 (by kernel_rfl)))
      have Sc12 := Aside0.mk (Q_Sc12 (hon 5 (by kernel_rfl)))
      have Sc13 := Aside0.mk (Q_Sc13 (hon 6 (by kernel_rfl)))
      have GA := Aside0.mk (Q_GA (hon 7 (by kernel_rfl)) hb_)
      obtain ⟨g, hga, hgv, hg, hge, hgn⟩ := GA.out
      refine skip_ (w1 := w'.setRow g c13) (by rfl) rfl ?_ ?_
      · refine store_run rfl (b := g) (t := 24) (old := cz24) (cs := c13) (by rw [← hgv]; exact (by first | (simp only [List.map_toArray, List.map_cons, List.map_nil, Act.eval, Array.getD_eq_getD_getElem?, Option.getD_some, e2, e13]; done) | (simp only [List.map_toArray, List.map_cons, List.map_nil, Act.eval, Array.getD_eq_getD_getElem?, Option.getD_some, e2, e13]; rfl))) (by first | (simp only [List.map_toArray, List.map_cons, List.map_nil, Act.eval, Array.getD_eq_getD_getElem?, Option.getD_some, e2, e13]; done) | (simp only [List.map_toArray, List.map_cons, List.map_nil, Act.eval, Array.getD_eq_getD_getElem?, Option.getD_some, e2, e13]; rfl)) hg (by rw [Sc13.out.size]; kernel_rfl) (by rw [Sc13.out.size]; rfl) Sc13.out.one
      refine hK.out _ _ ⟨c8, c9, c11, c12, c13, gv, ga, m1_, m2_, m4_, m5_, m6_, (by rw [ha.out]; exact putSel_none (v := undef) rfl), (below_setRow' HB.out hge), ((setRow_ne _ _ _ (Ne.symm hgn)).trans X1.out), (fun g2 h2 => by rw [setRow_size]; exact GL.out g2 h2), fun h0_ => absurd ((hon 7 (by kernel_rfl)).symm.trans h0_) (by decide), fun _ => Sc8.out, fun _ => (Sc9.out.step (fun k hk _ => setRow_ne _ _ _ (fun e => hk (by rw [e, hga])))), fun _ => Sc11.out, fun _ => (Sc12.out.step (fun k hk _ => setRow_ne _ _ _ (fun e => hk (by rw [e, hga])))), fun _ => (Sc13.out.step (fun k hk _ => setRow_ne _ _ _ (fun e => hk (by rw [e, hga])))), fun _ h1_ => absurd ((up_self b 8).symm.trans h1_) (by decide), fun _ => ⟨g, hga, hgv, setRow_at _ _ _ _ _ hg, hge, hgn⟩, Q_X1_, Q_X2_, Q_X4_, Q_X5_, Q_X6_⟩
    exact steps_nil
  rintro b a w2 hall ⟨c8, c9, c11, c12, c13, gv, ga, m1_, m2_, m4_, m5_, m6_, ha, Q_HB, Q_X1, Q_GL, Q_GN, Q_Sc8, Q_Sc9, Q_Sc11, Q_Sc12, Q_Sc13, Q_GA, Q_GB, Q_X1_, Q_X2_, Q_X4_, Q_X5_, Q_X6_⟩
  clear GL GN HB X1
  have hb0_ := hall 0 (by kernel_rfl)
  have hb1_ := hall 1 (by kernel_rfl)
  have hb2_ := hall 2 (by kernel_rfl)
  have hb3_ := hall 3 (by kernel_rfl)
  have hb4_ := hall 4 (by kernel_rfl)
  have hb5_ := hall 5 (by kernel_rfl)
  have hb6_ := hall 6 (by kernel_rfl)
  have hb7_ := hall 7 (by kernel_rfl)
  have hb8_ := hall 8 (by kernel_rfl)
  subst ha
  obtain rfl := Q_X1_ hb1_
  obtain rfl := Q_X2_ hb2_
  obtain rfl := Q_X4_ hb4_
  obtain rfl := Q_X5_ hb5_
  obtain rfl := Q_X6_ hb6_
  simp only [putSel, hb0_, hb1_, hb2_, hb3_, hb4_, hb5_, hb6_, hb7_, hb8_, if_true, Act.put, List.setIfInBounds_toArray, List.set_cons_zero, List.set_cons_succ]
  have HB := Aside0.mk Q_HB
  clear Q_HB
  have X1 := Aside0.mk Q_X1
  clear Q_X1
  have GL := Aside0.mk Q_GL
  clear Q_GL
  clear Q_GN
  have Sc8 := Aside0.mk (Q_Sc8 hb1_)
  clear Q_Sc8
  have Sc9 := Aside0.mk (Q_Sc9 hb2_)
  clear Q_Sc9
  have Sc11 := Aside0.mk (Q_Sc11 hb4_)
  clear Q_Sc11
  have Sc12 := Aside0.mk (Q_Sc12 hb5_)
  clear Q_Sc12
  have Sc13 := Aside0.mk (Q_Sc13 hb6_)
  clear Q_Sc13
  clear Q_GA
  have GB := Aside0.mk (Q_GB hb8_)
  clear Q_GB
  clear hall hb0_ hb1_ hb2_ hb3_ hb4_ hb5_ hb6_ hb7_ hb8_
  obtain ⟨g2, hga, hgv, hg, hge, hgn⟩ := GB.out
  subst hgv
  have GO := Aside0.mk hg
  have SO := Sc13
  clear GB GL hga hg hge hgn Sc8 Sc9 Sc11 Sc12 Sc13 HT_ HW_
  have SO2 := SO
  go_wp2
  clear SO2
  have HT_ := Aside0.mk ring_awake.tab3
  have HW_ := Aside0.mk ring_awake.bits3
  have GL := trivial
  have GN := trivial
  have G2 := trivial

  refine start_ (n := 11) (S := fun w' => True) (ds := []) #[false, false, false, false, false, false, false, false, false, false, false] (by kernel_rfl) rfl rfl trivial (fun hHeld => ?_)
  refine with_tabW ring_awake.tab3 ring_awake.bits3 (fun HT_ HW_ => ?_)
  refine inv_at [0, 1, 2, 3, 4, 5, 6, 7, 8, 9, 10] (fun a0_ b a w' => ∃ (c16 : Array Value) (c17 : Array Value) (c19 : Array Value) (c20 : Array Value) (c21 : Array Value) (c22 : Array Value) (gw : Value) (gb : Option Nat) (m2_ : Value) (m3_ : Value) (m5_ : Value) (m6_ : Value) (m7_ : Value) (m8_ : Value), a = putSel a0_ b [(0, 14, .agg cx), (1, 15, .agg cx), (2, 16, m2_), (3, 17, m3_), (4, 18, .agg cx), (5, 19, m5_), (6, 20, m6_), (7, 21, m7_), (8, 22, m8_), (9, 3, gw)] ∧ (Below w.heap.size w w') ∧ (w'.heap[g1]? = some (.cells cx 24 (0, 0))) ∧ (∀ g, gb = some g → g < w'.heap.size) ∧ (b 9 = false → gb = none) ∧ (w'.heap[g2]? = some (.cells c13 24 (0, 0))) ∧ (∀ g, gb = some g → g ≠ g2) ∧ (Sm w' (fun k => some k ≠ gb) eA c13) ∧ (b 2 = true → Sm w' (fun k => some k ≠ gb) eXX c16) ∧ (b 3 = true → ∀ W S, Sm W S e2 c17) ∧ (b 5 = true → Sm w' (fun k => some k ≠ gb) e2X c19) ∧ (b 6 = true → Sm w' (fun k => some k ≠ gb) eS c20) ∧ (b 7 = true → ∀ W S, Sm W S e1 c21) ∧ (b 8 = true → Sm w' (fun k => some k ≠ gb) eB c22) ∧ (b 9 = true → b 10 = false → GaP w w' gb gw g1 cz24) ∧ (b 10 = true → GaP w w' gb gw g1 c22) ∧ (b 2 = true → (m2_ : Value) = .agg c16) ∧ (b 3 = true → (m3_ : Value) = .agg c17) ∧ (b 5 = true → (m5_ : Value) = .agg c19) ∧ (b 6 = true → (m6_ : Value) = .agg c20) ∧ (b 7 = true → (m7_ : Value) = .agg c21) ∧ (b 8 = true → (m8_ : Value) = .agg c22)) HT_.out HW_.out (by kernel_rfl) (by kernel_rfl) ?_ ?_ ?_
  · exact ⟨#[], #[], #[], #[], #[], #[], .bool false, none, .bool false, .bool false, .bool false, .bool false, .bool false, .bool false, by simp only [putSel, Bool.false_eq_true, if_false], (below_drew HB.out), (blk_drew X1.out), (fun g h => by cases h), fun _ => rfl, (blk_drew GO.out), (fun g h => by cases h), ((SO.out.mono (fun _ _ => by simp)).below (below_drew (Below.refl _ _))), fun h_ => absurd h_ (by decide), fun h_ => absurd h_ (by decide), fun h_ => absurd h_ (by decide), fun h_ => absurd h_ (by decide), fun h_ => absurd h_ (by decide), fun h_ => absurd h_ (by decide), fun h_ => absurd h_ (by decide), fun h_ => absurd h_ (by decide), fun h_ => absurd h_ (by decide), fun h_ => absurd h_ (by decide), fun h_ => absurd h_ (by decide), fun h_ => absurd h_ (by decide), fun h_ => absurd h_ (by decide), fun h_ => absurd h_ (by decide)⟩
  · skip
    clear G2 GL GN GO HB SO X1
    refine steps_cons ?_ ?_
    · rintro b a w' ⟨c16, c17, c19, c20, c21, c22, gw, gb, m2_, m3_, m5_, m6_, m7_, m8_, ha, Q_HB, Q_X1, Q_GL, Q_GN, Q_GO, Q_G2, Q_SO, Q_Sc16, Q_Sc17, Q_Sc19, Q_Sc20, Q_Sc21, Q_Sc22, Q_GA, Q_GB, Q_X2_, Q_X3_, Q_X5_, Q_X6_, Q_X7_, Q_X8_⟩ hb_ hon hoff
      refine ⟨_, rfl, fun K hK => ?_⟩
      have e1 : a.tmps[1]? = some (.pointer (some ⟨g1, 0, none⟩)) := by rw [ha]; exact (putSel_off rfl).trans rfl
      replace ha := Aside0.mk ha
      have HB := Aside0.mk Q_HB
      have X1 := Aside0.mk Q_X1
      have GL := Aside0.mk Q_GL
      have GO := Aside0.mk Q_GO
      have G2 := Aside0.mk Q_G2
      have SO := Aside0.mk Q_SO
      refine value_ (w1 := w') (v := .agg cx) (by rfl) rfl ?_ ?_
      · exact load_run (ty := 24) (x := .tmp 1) (b := g1) (t := 24) (cs := cx) rfl (by first | (simp only [List.map_toArray, List.map_cons, List.map_nil, Act.eval, Array.getD_eq_getD_getElem?, Option.getD_some, e1]; done) | (simp only [List.map_toArray, List.map_cons, List.map_nil, Act.eval, Array.getD_eq_getD_getElem?, Option.getD_some, e1]; rfl)) X1.out rfl Try.underlying24 (by rw [HX3.out]; kernel_rfl)
      refine hK.out _ _ ⟨c16, c17, c19, c20, c21, c22, gw, gb, m2_, m3_, m5_, m6_, m7_, m8_, (by rw [ha.out]; exact putSel_upk 0 hb_ rfl rfl rfl), HB.out, X1.out, GL.out, fun h0_ => (Q_GN h0_), GO.out, G2.out, SO.out, fun h0_ => absurd ((hoff 2 (by kernel_rfl)).symm.trans h0_) (by decide), fun h0_ => absurd ((hoff 3 (by kernel_rfl)).symm.trans h0_) (by decide), fun h0_ => absurd ((hoff 5 (by kernel_rfl)).symm.trans h0_) (by decide), fun h0_ => absurd ((hoff 6 (by kernel_rfl)).symm.trans h0_) (by decide), fun h0_ => absurd ((hoff 7 (by kernel_rfl)).symm.trans h0_) (by decide), fun h0_ => absurd ((hoff 8 (by kernel_rfl)).symm.trans h0_) (by decide), fun h0_ h1_ => (Q_GA h0_ h1_), fun h0_ => absurd ((hoff 10 (by kernel_rfl)).symm.trans h0_) (by decide), fun h0_ => absurd ((hoff 2 (by kernel_rfl)).symm.trans h0_) (by decide), fun h0_ => absurd ((hoff 3 (by kernel_rfl)).symm.trans h0_) (by decide), fun h0_ => absurd ((hoff 5 (by kernel_rfl)).symm.trans h0_) (by decide), fun h0_ => absurd ((hoff 6 (by kernel_rfl)).symm.trans h0_) (by decide), fun h0_ => absurd ((hoff 7 (by kernel_rfl)).symm.trans h0_) (by decide), fun h0_ => absurd ((hoff 8 (by kernel_rfl)).symm.trans h0_) (by decide)⟩
    refine steps_cons ?_ ?_
    · rintro b a w' ⟨c16, c17, c19, c20, c21, c22, gw, gb, m2_, m3_, m5_, m6_, m7_, m8_, ha, Q_HB, Q_X1, Q_GL, Q_GN, Q_GO, Q_G2, Q_SO, Q_Sc16, Q_Sc17, Q_Sc19, Q_Sc20, Q_Sc21, Q_Sc22, Q_GA, Q_GB, Q_X2_, Q_X3_, Q_X5_, Q_X6_, Q_X7_, Q_X8_⟩ hb_ hon hoff
      refine ⟨_, rfl, fun K hK => ?_⟩
      have e1 : a.tmps[1]? = some (.pointer (some ⟨g1, 0, none⟩)) := by rw [ha]; exact (putSel_off rfl).trans rfl
      replace ha := Aside0.mk ha
      have HB := Aside0.mk Q_HB
      have X1 := Aside0.mk Q_X1
      have GL := Aside0.mk Q_GL
      have GO := Aside0.mk Q_GO
      have G2 := Aside0.mk Q_G2
      have SO := Aside0.mk Q_SO
      refine value_ (w1 := w') (v := .agg cx) (by rfl) rfl ?_ ?_
      · exact load_run (ty := 24) (x := .tmp 1) (b := g1) (t := 24) (cs := cx) rfl (by first | (simp only [List.map_toArray, List.map_cons, List.map_nil, Act.eval, Array.getD_eq_getD_getElem?, Option.getD_some, e1]; done) | (simp only [List.map_toArray, List.map_cons, List.map_nil, Act.eval, Array.getD_eq_getD_getElem?, Option.getD_some, e1]; rfl)) X1.out rfl Try.underlying24 (by rw [HX3.out]; kernel_rfl)
      refine hK.out _ _ ⟨c16, c17, c19, c20, c21, c22, gw, gb, m2_, m3_, m5_, m6_, m7_, m8_, (by rw [ha.out]; exact putSel_upk 1 hb_ rfl rfl rfl), HB.out, X1.out, GL.out, fun h0_ => (Q_GN h0_), GO.out, G2.out, SO.out, fun h0_ => absurd ((hoff 2 (by kernel_rfl)).symm.trans h0_) (by decide), fun h0_ => absurd ((hoff 3 (by kernel_rfl)).symm.trans h0_) (by decide), fun h0_ => absurd ((hoff 5 (by kernel_rfl)).symm.trans h0_) (by decide), fun h0_ => absurd ((hoff 6 (by kernel_rfl)).symm.trans h0_) (by decide), fun h0_ => absurd ((hoff 7 (by kernel_rfl)).symm.trans h0_) (by decide), fun h0_ => absurd ((hoff 8 (by kernel_rfl)).symm.trans h0_) (by decide), fun h0_ h1_ => (Q_GA h0_ h1_), fun h0_ => absurd ((hoff 10 (by kernel_rfl)).symm.trans h0_) (by decide), fun h0_ => absurd ((hoff 2 (by kernel_rfl)).symm.trans h0_) (by decide), fun h0_ => absurd ((hoff 3 (by kernel_rfl)).symm.trans h0_) (by decide), fun h0_ => absurd ((hoff 5 (by kernel_rfl)).symm.trans h0_) (by decide), fun h0_ => absurd ((hoff 6 (by kernel_rfl)).symm.trans h0_) (by decide), fun h0_ => absurd ((hoff 7 (by kernel_rfl)).symm.trans h0_) (by decide), fun h0_ => absurd ((hoff 8 (by kernel_rfl)).symm.trans h0_) (by decide)⟩
    refine steps_cons ?_ ?_
    · rintro b a w' ⟨c16, c17, c19, c20, c21, c22, gw, gb, m2_, m3_, m5_, m6_, m7_, m8_, ha, Q_HB, Q_X1, Q_GL, Q_GN, Q_GO, Q_G2, Q_SO, Q_Sc16, Q_Sc17, Q_Sc19, Q_Sc20, Q_Sc21, Q_Sc22, Q_GA, Q_GB, Q_X2_, Q_X3_, Q_X5_, Q_X6_, Q_X7_, Q_X8_⟩ hb_ hon hoff
      refine ⟨_, rfl, fun K hK => ?_⟩
      have e14 : a.tmps[14]? = some (.agg cx) := by rw [ha]; exact putSel_on (e := (0, 14, .agg cx)) 0 rfl rfl (hon 0 (by kernel_rfl)) rfl
      have e15 : a.tmps[15]? = some (.agg cx) := by rw [ha]; exact putSel_on (e := (1, 15, .agg cx)) 1 rfl rfl (hon 1 (by kernel_rfl)) rfl
      replace ha := Aside0.mk ha
      have HB := Aside0.mk Q_HB
      have X1 := Aside0.mk Q_X1
      have GL := Aside0.mk Q_GL
      have GO := Aside0.mk Q_GO
      have G2 := Aside0.mk Q_G2
      have SO := Aside0.mk Q_SO
      refine goes_ Try.func20 (by kernel_rfl) rfl #[.agg cx, .agg cx] (by rfl) rfl rfl (by first | (simp only [List.map_toArray, List.map_cons, List.map_nil, Act.eval, Array.getD_eq_getD_getElem?, Option.getD_some, e14, e15]; done) | (simp only [List.map_toArray, List.map_cons, List.map_nil, Act.eval, Array.getD_eq_getD_getElem?, Option.getD_some, e14, e15]; rfl)) ?_
      refine (mul_S (S := (fun k => some k ≠ gb)) (HX.out _ _) (HX.out _ _)).mono ?_
      rintro e5 w5 ⟨cn, rfl, hsn, hb5⟩
      refine ⟨_, rfl, ?_⟩
      refine hK.out _ _ ⟨cn, c17, c19, c20, c21, c22, gw, gb, (.agg cn), m3_, m5_, m6_, m7_, m8_, (by rw [ha.out]; exact putSel_upk 2 hb_ rfl rfl rfl), (below_step HB.out hb5), (blk_below X1.out hb5), (fun g h => Nat.lt_of_lt_of_le (GL.out g h) hb5.size), fun h0_ => (Q_GN h0_), (blk_below GO.out hb5), G2.out, (SO.out.below hb5), fun _ => (hsn.mono (sm_new GL.out)), fun h0_ => absurd ((hoff 3 (by kernel_rfl)).symm.trans h0_) (by decide), fun h0_ => absurd ((hoff 5 (by kernel_rfl)).symm.trans h0_) (by decide), fun h0_ => absurd ((hoff 6 (by kernel_rfl)).symm.trans h0_) (by decide), fun h0_ => absurd ((hoff 7 (by kernel_rfl)).symm.trans h0_) (by decide), fun h0_ => absurd ((hoff 8 (by kernel_rfl)).symm.trans h0_) (by decide), fun h0_ h1_ => ((Q_GA h0_ h1_).below hb5), fun h0_ => absurd ((hoff 10 (by kernel_rfl)).symm.trans h0_) (by decide), fun _ => rfl, fun h0_ => absurd ((hoff 3 (by kernel_rfl)).symm.trans h0_) (by decide), fun h0_ => absurd ((hoff 5 (by kernel_rfl)).symm.trans h0_) (by decide), fun h0_ => absurd ((hoff 6 (by kernel_rfl)).symm.trans h0_) (by decide), fun h0_ => absurd ((hoff 7 (by kernel_rfl)).symm.trans h0_) (by decide), fun h0_ => absurd ((hoff 8 (by kernel_rfl)).symm.trans h0_) (by decide)⟩
    refine steps_cons ?_ ?_
    · rintro b a w' ⟨c16, c17, c19, c20, c21, c22, gw, gb, m2_, m3_, m5_, m6_, m7_, m8_, ha, Q_HB, Q_X1, Q_GL, Q_GN, Q_GO, Q_G2, Q_SO, Q_Sc16, Q_Sc17, Q_Sc19, Q_Sc20, Q_Sc21, Q_Sc22, Q_GA, Q_GB, Q_X2_, Q_X3_, Q_X5_, Q_X6_, Q_X7_, Q_X8_⟩ hb_ hon hoff
      refine ⟨_, rfl, fun K hK => ?_⟩
      replace ha := Aside0.mk ha
      have HB := Aside0.mk Q_HB
      have X1 := Aside0.mk Q_X1
      have GL := Aside0.mk Q_GL
      have GO := Aside0.mk Q_GO
      have G2 := Aside0.mk Q_G2
      have SO := Aside0.mk Q_SO
      have Sc16 := Aside0.mk (Q_Sc16 (hon 2 (by kernel_rfl)))
      refine goes_ Try.func49 (by kernel_rfl) rfl #[.int .i64 2] (by rfl) rfl rfl (by first | (simp only [List.map_toArray, List.map_cons, List.map_nil, Act.eval, Array.getD_eq_getD_getElem?, Option.getD_some]; done) | (simp only [List.map_toArray, List.map_cons, List.map_nil, Act.eval, Array.getD_eq_getD_getElem?, Option.getD_some]; rfl)) ?_
      refine (num_S 2 _).mono ?_
      rintro e5 w5 ⟨cn, rfl, hsn, hb5⟩
      refine ⟨_, rfl, ?_⟩
      refine hK.out _ _ ⟨c16, cn, c19, c20, c21, c22, gw, gb, m2_, (.agg cn), m5_, m6_, m7_, m8_, (by rw [ha.out]; exact putSel_upk 3 hb_ rfl rfl rfl), (below_step HB.out hb5), (blk_below X1.out hb5), (fun g h => Nat.lt_of_lt_of_le (GL.out g h) hb5.size), fun h0_ => (Q_GN h0_), (blk_below GO.out hb5), G2.out, (SO.out.below hb5), fun _ => (Sc16.out.below hb5), fun _ => hsn, fun h0_ => absurd ((hoff 5 (by kernel_rfl)).symm.trans h0_) (by decide), fun h0_ => absurd ((hoff 6 (by kernel_rfl)).symm.trans h0_) (by decide), fun h0_ => absurd ((hoff 7 (by kernel_rfl)).symm.trans h0_) (by decide), fun h0_ => absurd ((hoff 8 (by kernel_rfl)).symm.trans h0_) (by decide), fun h0_ h1_ => ((Q_GA h0_ h1_).below hb5), fun h0_ => absurd ((hoff 10 (by kernel_rfl)).symm.trans h0_) (by decide), Q_X2_, fun _ => rfl, fun h0_ => absurd ((hoff 5 (by kernel_rfl)).symm.trans h0_) (by decide), fun h0_ => absurd ((hoff 6 (by kernel_rfl)).symm.trans h0_) (by decide), fun h0_ => absurd ((hoff 7 (by kernel_rfl)).symm.trans h0_) (by decide), fun h0_ => absurd ((hoff 8 (by kernel_rfl)).symm.trans h0_) (by decide)⟩
    refine steps_cons ?_ ?_
    · rintro b a w' ⟨c16, c17, c19, c20, c21, c22, gw, gb, m2_, m3_, m5_, m6_, m7_, m8_, ha, Q_HB, Q_X1, Q_GL, Q_GN, Q_GO, Q_G2, Q_SO, Q_Sc16, Q_Sc17, Q_Sc19, Q_Sc20, Q_Sc21, Q_Sc22, Q_GA, Q_GB, Q_X2_, Q_X3_, Q_X5_, Q_X6_, Q_X7_, Q_X8_⟩ hb_ hon hoff
      refine ⟨_, rfl, fun K hK => ?_⟩
      have e1 : a.tmps[1]? = some (.pointer (some ⟨g1, 0, none⟩)) := by rw [ha]; exact (putSel_off rfl).trans rfl
      replace ha := Aside0.mk ha
      have HB := Aside0.mk Q_HB
      have X1 := Aside0.mk Q_X1
      have GL := Aside0.mk Q_GL
      have GO := Aside0.mk Q_GO
      have G2 := Aside0.mk Q_G2
      have SO := Aside0.mk Q_SO
      refine value_ (w1 := w') (v := .agg cx) (by rfl) rfl ?_ ?_
      · exact load_run (ty := 24) (x := .tmp 1) (b := g1) (t := 24) (cs := cx) rfl (by first | (simp only [List.map_toArray, List.map_cons, List.map_nil, Act.eval, Array.getD_eq_getD_getElem?, Option.getD_some, e1]; done) | (simp only [List.map_toArray, List.map_cons, List.map_nil, Act.eval, Array.getD_eq_getD_getElem?, Option.getD_some, e1]; rfl)) X1.out rfl Try.underlying24 (by rw [HX3.out]; kernel_rfl)
      refine hK.out _ _ ⟨c16, c17, c19, c20, c21, c22, gw, gb, m2_, m3_, m5_, m6_, m7_, m8_, (by rw [ha.out]; exact putSel_upk 4 hb_ rfl rfl rfl), HB.out, X1.out, GL.out, fun h0_ => (Q_GN h0_), GO.out, G2.out, SO.out, fun h0_ => (Q_Sc16 h0_), fun h0_ => (Q_Sc17 h0_), fun h0_ => absurd ((hoff 5 (by kernel_rfl)).symm.trans h0_) (by decide), fun h0_ => absurd ((hoff 6 (by kernel_rfl)).symm.trans h0_) (by decide), fun h0_ => absurd ((hoff 7 (by kernel_rfl)).symm.trans h0_) (by decide), fun h0_ => absurd ((hoff 8 (by kernel_rfl)).symm.trans h0_) (by decide), fun h0_ h1_ => (Q_GA h0_ h1_), fun h0_ => absurd ((hoff 10 (by kernel_rfl)).symm.trans h0_) (by decide), Q_X2_, Q_X3_, fun h0_ => absurd ((hoff 5 (by kernel_rfl)).symm.trans h0_) (by decide), fun h0_ => absurd ((hoff 6 (by kernel_rfl)).symm.trans h0_) (by decide), fun h0_ => absurd ((hoff 7 (by kernel_rfl)).symm.trans h0_) (by decide), fun h0_ => absurd ((hoff 8 (by kernel_rfl)).symm.trans h0_) (by decide)⟩
    refine steps_cons ?_ ?_
    · rintro b a w' ⟨c16, c17, c19, c20, c21, c22, gw, gb, m2_, m3_, m5_, m6_, m7_, m8_, ha, Q_HB, Q_X1, Q_GL, Q_GN, Q_GO, Q_G2, Q_SO, Q_Sc16, Q_Sc17, Q_Sc19, Q_Sc20, Q_Sc21, Q_Sc22, Q_GA, Q_GB, Q_X2_, Q_X3_, Q_X5_, Q_X6_, Q_X7_, Q_X8_⟩ hb_ hon hoff
      refine ⟨_, rfl, fun K hK => ?_⟩
      have e17 : a.tmps[17]? = some (m3_) := by rw [ha]; exact putSel_on (e := (3, 17, m3_)) 3 rfl rfl (hon 3 (by kernel_rfl)) rfl
      rw [Q_X3_ (hon 3 (by kernel_rfl))] at e17
      have e18 : a.tmps[18]? = some (.agg cx) := by rw [ha]; exact putSel_on (e := (4, 18, .agg cx)) 4 rfl rfl (hon 4 (by kernel_rfl)) rfl
      replace ha := Aside0.mk ha
      have HB := Aside0.mk Q_HB
      have X1 := Aside0.mk Q_X1
      have GL := Aside0.mk Q_GL
      have GO := Aside0.mk Q_GO
      have G2 := Aside0.mk Q_G2
      have SO := Aside0.mk Q_SO
      have Sc16 := Aside0.mk (Q_Sc16 (hon 2 (by kernel_rfl)))
      have Sc17 := Aside0.mk (Q_Sc17 (hon 3 (by kernel_rfl)))
      refine goes_ Try.func20 (by kernel_rfl) rfl #[.agg c17, .agg cx] (by rfl) rfl rfl (by first | (simp only [List.map_toArray, List.map_cons, List.map_nil, Act.eval, Array.getD_eq_getD_getElem?, Option.getD_some, e17, e18]; done) | (simp only [List.map_toArray, List.map_cons, List.map_nil, Act.eval, Array.getD_eq_getD_getElem?, Option.getD_some, e17, e18]; rfl)) ?_
      refine (mul_S (S := (fun k => some k ≠ gb)) (Sc17.out _ _) (HX.out _ _)).mono ?_
      rintro e5 w5 ⟨cn, rfl, hsn, hb5⟩
      refine ⟨_, rfl, ?_⟩
      refine hK.out _ _ ⟨c16, c17, cn, c20, c21, c22, gw, gb, m2_, m3_, (.agg cn), m6_, m7_, m8_, (by rw [ha.out]; exact putSel_upk 5 hb_ rfl rfl rfl), (below_step HB.out hb5), (blk_below X1.out hb5), (fun g h => Nat.lt_of_lt_of_le (GL.out g h) hb5.size), fun h0_ => (Q_GN h0_), (blk_below GO.out hb5), G2.out, (SO.out.below hb5), fun _ => (Sc16.out.below hb5), fun _ => Sc17.out, fun _ => (hsn.mono (sm_new GL.out)), fun h0_ => absurd ((hoff 6 (by kernel_rfl)).symm.trans h0_) (by decide), fun h0_ => absurd ((hoff 7 (by kernel_rfl)).symm.trans h0_) (by decide), fun h0_ => absurd ((hoff 8 (by kernel_rfl)).symm.trans h0_) (by decide), fun h0_ h1_ => ((Q_GA h0_ h1_).below hb5), fun h0_ => absurd ((hoff 10 (by kernel_rfl)).symm.trans h0_) (by decide), Q_X2_, Q_X3_, fun _ => rfl, fun h0_ => absurd ((hoff 6 (by kernel_rfl)).symm.trans h0_) (by decide), fun h0_ => absurd ((hoff 7 (by kernel_rfl)).symm.trans h0_) (by decide), fun h0_ => absurd ((hoff 8 (by kernel_rfl)).symm.trans h0_) (by decide)⟩
    refine steps_cons ?_ ?_
    · rintro b a w' ⟨c16, c17, c19, c20, c21, c22, gw, gb, m2_, m3_, m5_, m6_, m7_, m8_, ha, Q_HB, Q_X1, Q_GL, Q_GN, Q_GO, Q_G2, Q_SO, Q_Sc16, Q_Sc17, Q_Sc19, Q_Sc20, Q_Sc21, Q_Sc22, Q_GA, Q_GB, Q_X2_, Q_X3_, Q_X5_, Q_X6_, Q_X7_, Q_X8_⟩ hb_ hon hoff
      refine ⟨_, rfl, fun K hK => ?_⟩
      have e16 : a.tmps[16]? = some (m2_) := by rw [ha]; exact putSel_on (e := (2, 16, m2_)) 2 rfl rfl (hon 2 (by kernel_rfl)) rfl
      rw [Q_X2_ (hon 2 (by kernel_rfl))] at e16
      have e19 : a.tmps[19]? = some (m5_) := by rw [ha]; exact putSel_on (e := (5, 19, m5_)) 5 rfl rfl (hon 5 (by kernel_rfl)) rfl
      rw [Q_X5_ (hon 5 (by kernel_rfl))] at e19
      replace ha := Aside0.mk ha
      have HB := Aside0.mk Q_HB
      have X1 := Aside0.mk Q_X1
      have GL := Aside0.mk Q_GL
      have GO := Aside0.mk Q_GO
      have G2 := Aside0.mk Q_G2
      have SO := Aside0.mk Q_SO
      have Sc16 := Aside0.mk (Q_Sc16 (hon 2 (by kernel_rfl)))
      have Sc17 := Aside0.mk (Q_Sc17 (hon 3 (by kernel_rfl)))
      have Sc19 := Aside0.mk (Q_Sc19 (hon 5 (by kernel_rfl)))
      refine goes_ Try.func19 (by kernel_rfl) rfl #[.agg c16, .agg c19] (by rfl) rfl rfl (by first | (simp only [List.map_toArray, List.map_cons, List.map_nil, Act.eval, Array.getD_eq_getD_getElem?, Option.getD_some, e16, e19]; done) | (simp only [List.map_toArray, List.map_cons, List.map_nil, Act.eval, Array.getD_eq_getD_getElem?, Option.getD_some, e16, e19]; rfl)) ?_
      refine (add_S (S := (fun k => some k ≠ gb)) Sc16.out Sc19.out).mono ?_
      rintro e5 w5 ⟨cn, rfl, hsn, hb5⟩
      refine ⟨_, rfl, ?_⟩
      refine hK.out _ _ ⟨c16, c17, c19, cn, c21, c22, gw, gb, m2_, m3_, m5_, (.agg cn), m7_, m8_, (by rw [ha.out]; exact putSel_upk 6 hb_ rfl rfl rfl), (below_step HB.out hb5), (blk_below X1.out hb5), (fun g h => Nat.lt_of_lt_of_le (GL.out g h) hb5.size), fun h0_ => (Q_GN h0_), (blk_below GO.out hb5), G2.out, (SO.out.below hb5), fun _ => (Sc16.out.below hb5), fun _ => Sc17.out, fun _ => (Sc19.out.below hb5), fun _ => (hsn.mono (sm_new GL.out)), fun h0_ => absurd ((hoff 7 (by kernel_rfl)).symm.trans h0_) (by decide), fun h0_ => absurd ((hoff 8 (by kernel_rfl)).symm.trans h0_) (by decide), fun h0_ h1_ => ((Q_GA h0_ h1_).below hb5), fun h0_ => absurd ((hoff 10 (by kernel_rfl)).symm.trans h0_) (by decide), Q_X2_, Q_X3_, Q_X5_, fun _ => rfl, fun h0_ => absurd ((hoff 7 (by kernel_rfl)).symm.trans h0_) (by decide), fun h0_ => absurd ((hoff 8 (by kernel_rfl)).symm.trans h0_) (by decide)⟩
    refine steps_cons ?_ ?_
    · rintro b a w' ⟨c16, c17, c19, c20, c21, c22, gw, gb, m2_, m3_, m5_, m6_, m7_, m8_, ha, Q_HB, Q_X1, Q_GL, Q_GN, Q_GO, Q_G2, Q_SO, Q_Sc16, Q_Sc17, Q_Sc19, Q_Sc20, Q_Sc21, Q_Sc22, Q_GA, Q_GB, Q_X2_, Q_X3_, Q_X5_, Q_X6_, Q_X7_, Q_X8_⟩ hb_ hon hoff
      refine ⟨_, rfl, fun K hK => ?_⟩
      replace ha := Aside0.mk ha
      have HB := Aside0.mk Q_HB
      have X1 := Aside0.mk Q_X1
      have GL := Aside0.mk Q_GL
      have GO := Aside0.mk Q_GO
      have G2 := Aside0.mk Q_G2
      have SO := Aside0.mk Q_SO
      have Sc16 := Aside0.mk (Q_Sc16 (hon 2 (by kernel_rfl)))
      have Sc17 := Aside0.mk (Q_Sc17 (hon 3 (by kernel_rfl)))
      have Sc19 := Aside0.mk (Q_Sc19 (hon 5 (by kernel_rfl)))
      have Sc20 := Aside0.mk (Q_Sc20 (hon 6 (by kernel_rfl)))
      refine goes_ Try.func49 (by kernel_rfl) rfl #[.int .i64 1] (by rfl) rfl rfl (by first | (simp only [List.map_toArray, List.map_cons, List.map_nil, Act.eval, Array.getD_eq_getD_getElem?, Option.getD_some]; done) | (simp only [List.map_toArray, List.map_cons, List.map_nil, Act.eval, Array.getD_eq_getD_getElem?, Option.getD_some]; rfl)) ?_
      refine (num_S 1 _).mono ?_
      rintro e5 w5 ⟨cn, rfl, hsn, hb5⟩
      refine ⟨_, rfl, ?_⟩
      refine hK.out _ _ ⟨c16, c17, c19, c20, cn, c22, gw, gb, m2_, m3_, m5_, m6_, (.agg cn), m8_, (by rw [ha.out]; exact putSel_upk 7 hb_ rfl rfl rfl), (below_step HB.out hb5), (blk_below X1.out hb5), (fun g h => Nat.lt_of_lt_of_le (GL.out g h) hb5.size), fun h0_ => (Q_GN h0_), (blk_below GO.out hb5), G2.out, (SO.out.below hb5), fun _ => (Sc16.out.below hb5), fun _ => Sc17.out, fun _ => (Sc19.out.below hb5), fun _ => (Sc20.out.below hb5), fun _ => hsn, fun h0_ => absurd ((hoff 8 (by kernel_rfl)).symm.trans h0_) (by decide), fun h0_ h1_ => ((Q_GA h0_ h1_).below hb5), fun h0_ => absurd ((hoff 10 (by kernel_rfl)).symm.trans h0_) (by decide), Q_X2_, Q_X3_, Q_X5_, Q_X6_, fun _ => rfl, fun h0_ => absurd ((hoff 8 (by kernel_rfl)).symm.trans h0_) (by decide)⟩
    refine steps_cons ?_ ?_
    · rintro b a w' ⟨c16, c17, c19, c20, c21, c22, gw, gb, m2_, m3_, m5_, m6_, m7_, m8_, ha, Q_HB, Q_X1, Q_GL, Q_GN, Q_GO, Q_G2, Q_SO, Q_Sc16, Q_Sc17, Q_Sc19, Q_Sc20, Q_Sc21, Q_Sc22, Q_GA, Q_GB, Q_X2_, Q_X3_, Q_X5_, Q_X6_, Q_X7_, Q_X8_⟩ hb_ hon hoff
      refine ⟨_, rfl, fun K hK => ?_⟩
      have e20 : a.tmps[20]? = some (m6_) := by rw [ha]; exact putSel_on (e := (6, 20, m6_)) 6 rfl rfl (hon 6 (by kernel_rfl)) rfl
      rw [Q_X6_ (hon 6 (by kernel_rfl))] at e20
      have e21 : a.tmps[21]? = some (m7_) := by rw [ha]; exact putSel_on (e := (7, 21, m7_)) 7 rfl rfl (hon 7 (by kernel_rfl)) rfl
      rw [Q_X7_ (hon 7 (by kernel_rfl))] at e21
      replace ha := Aside0.mk ha
      have HB := Aside0.mk Q_HB
      have X1 := Aside0.mk Q_X1
      have GL := Aside0.mk Q_GL
      have GO := Aside0.mk Q_GO
      have G2 := Aside0.mk Q_G2
      have SO := Aside0.mk Q_SO
      have Sc16 := Aside0.mk (Q_Sc16 (hon 2 (by kernel_rfl)))
      have Sc17 := Aside0.mk (Q_Sc17 (hon 3 (by kernel_rfl)))
      have Sc19 := Aside0.mk (Q_Sc19 (hon 5 (by kernel_rfl)))
      have Sc20 := Aside0.mk (Q_Sc20 (hon 6 (by kernel_rfl)))
      have Sc21 := Aside0.mk (Q_Sc21 (hon 7 (by kernel_rfl)))
      refine goes_ Try.func19 (by kernel_rfl) rfl #[.agg c20, .agg c21] (by rfl) rfl rfl (by first | (simp only [List.map_toArray, List.map_cons, List.map_nil, Act.eval, Array.getD_eq_getD_getElem?, Option.getD_some, e20, e21]; done) | (simp only [List.map_toArray, List.map_cons, List.map_nil, Act.eval, Array.getD_eq_getD_getElem?, Option.getD_some, e20, e21]; rfl)) ?_
      refine (add_S (S := (fun k => some k ≠ gb)) Sc20.out (Sc21.out _ _)).mono ?_
      rintro e5 w5 ⟨cn, rfl, hsn, hb5⟩
      refine ⟨_, rfl, ?_⟩
      refine hK.out _ _ ⟨c16, c17, c19, c20, c21, cn, gw, gb, m2_, m3_, m5_, m6_, m7_, (.agg cn), (by rw [ha.out]; exact putSel_upk 8 hb_ rfl rfl rfl), (below_step HB.out hb5), (blk_below X1.out hb5), (fun g h => Nat.lt_of_lt_of_le (GL.out g h) hb5.size), fun h0_ => (Q_GN h0_), (blk_below GO.out hb5), G2.out, (SO.out.below hb5), fun _ => (Sc16.out.below hb5), fun _ => Sc17.out, fun _ => (Sc19.out.below hb5), fun _ => (Sc20.out.below hb5), fun _ => Sc21.out, fun _ => (hsn.mono (sm_new GL.out)), fun h0_ h1_ => ((Q_GA h0_ h1_).below hb5), fun h0_ => absurd ((hoff 10 (by kernel_rfl)).symm.trans h0_) (by decide), Q_X2_, Q_X3_, Q_X5_, Q_X6_, Q_X7_, fun _ => rfl⟩
    refine steps_cons ?_ ?_
    · rintro b a w' ⟨c16, c17, c19, c20, c21, c22, gw, gb, m2_, m3_, m5_, m6_, m7_, m8_, ha, Q_HB, Q_X1, Q_GL, Q_GN, Q_GO, Q_G2, Q_SO, Q_Sc16, Q_Sc17, Q_Sc19, Q_Sc20, Q_Sc21, Q_Sc22, Q_GA, Q_GB, Q_X2_, Q_X3_, Q_X5_, Q_X6_, Q_X7_, Q_X8_⟩ hb_ hon hoff
      refine ⟨_, rfl, fun K hK => ?_⟩
      replace ha := Aside0.mk ha
      have HB := Aside0.mk Q_HB
      have X1 := Aside0.mk Q_X1
      have GL := Aside0.mk Q_GL
      have GN := Aside0.mk (Q_GN hb_)
      have GO := Aside0.mk Q_GO
      have G2 := Aside0.mk Q_G2
      have SO := Aside0.mk Q_SO
      refine value_ (w1 := w'.alloc (.cells cz24 24)) (v := .pointer (some ⟨w'.heap.size, 0, none⟩)) (by rfl) rfl ?_ ?_
      · exact alloc_run rfl zero24
      refine hK.out _ _ ⟨c16, c17, c19, c20, c21, c22, (.pointer (some ⟨w'.heap.size, 0, none⟩)), (some w'.heap.size), m2_, m3_, m5_, m6_, m7_, m8_, (by rw [ha.out]; exact putSel_upk 9 hb_ rfl rfl rfl), (below_alloc HB.out _), (blk_alloc X1.out _), (fun g h => by injection h with h; rw [World.size_alloc]; omega), fun h0_ => absurd ((up_self b 9).symm.trans h0_) (by decide), (blk_alloc GO.out _), (fun g h => by injection h with h; have := heap_lt GO.out; omega), (sm_alloc SO.out), fun h0_ => (sm_alloc (Q_Sc16 h0_)), fun h0_ => (Q_Sc17 h0_), fun h0_ => (sm_alloc (Q_Sc19 h0_)), fun h0_ => (sm_alloc (Q_Sc20 h0_)), fun h0_ => (Q_Sc21 h0_), fun h0_ => (sm_alloc (Q_Sc22 h0_)), fun _ _ => ⟨_, rfl, rfl, blk_new _ _, HB.out.size, (by have := heap_lt X1.out; omega)⟩, fun h0_ => absurd ((hoff 10 (by kernel_rfl)).symm.trans h0_) (by decide), Q_X2_, Q_X3_, Q_X5_, Q_X6_, Q_X7_, Q_X8_⟩
    refine steps_cons ?_ ?_
    · rintro b a w' ⟨c16, c17, c19, c20, c21, c22, gw, gb, m2_, m3_, m5_, m6_, m7_, m8_, ha, Q_HB, Q_X1, Q_GL, Q_GN, Q_GO, Q_G2, Q_SO, Q_Sc16, Q_Sc17, Q_Sc19, Q_Sc20, Q_Sc21, Q_Sc22, Q_GA, Q_GB, Q_X2_, Q_X3_, Q_X5_, Q_X6_, Q_X7_, Q_X8_⟩ hb_ hon hoff
      refine ⟨_, rfl, fun K hK => ?_⟩
      have e3 : a.tmps[3]? = some (gw) := by rw [ha]; exact putSel_on (e := (9, 3, gw)) 9 rfl rfl (hon 9 (by kernel_rfl)) rfl
      have e22 : a.tmps[22]? = some (m8_) := by rw [ha]; exact putSel_on (e := (8, 22, m8_)) 8 rfl rfl (hon 8 (by kernel_rfl)) rfl
      rw [Q_X8_ (hon 8 (by kernel_rfl))] at e22
      replace ha := Aside0.mk ha
      have HB := Aside0.mk Q_HB
      have X1 := Aside0.mk Q_X1
      have GL := Aside0.mk Q_GL
      have GO := Aside0.mk Q_GO
      have G2 := Aside0.mk Q_G2
      have SO := Aside0.mk Q_SO
      have Sc16 := Aside0.mk (Q_Sc16 (hon 2 (by kernel_rfl)))
      have Sc17 := Aside0.mk (Q_Sc17 (hon 3 (by kernel_rfl)))
      have Sc19 := Aside0.mk (Q_Sc19 (hon 5 (by kernel_rfl)))
      have Sc20 := Aside0.mk (Q_Sc20 (hon 6 (by kernel_rfl)))
      have Sc21 := Aside0.mk (Q_Sc21 (hon 7 (by kernel_rfl)))
      have Sc22 := Aside0.mk (Q_Sc22 (hon 8 (by kernel_rfl)))
      have GA := Aside0.mk (Q_GA (hon 9 (by kernel_rfl)) hb_)
      obtain ⟨g, hga, hgv, hg, hge, hgn⟩ := GA.out
      refine skip_ (w1 := w'.setRow g c22) (by rfl) rfl ?_ ?_
      · refine store_run rfl (b := g) (t := 24) (old := cz24) (cs := c22) (by rw [← hgv]; exact (by first | (simp only [List.map_toArray, List.map_cons, List.map_nil, Act.eval, Array.getD_eq_getD_getElem?, Option.getD_some, e3, e22]; done) | (simp only [List.map_toArray, List.map_cons, List.map_nil, Act.eval, Array.getD_eq_getD_getElem?, Option.getD_some, e3, e22]; rfl))) (by first | (simp only [List.map_toArray, List.map_cons, List.map_nil, Act.eval, Array.getD_eq_getD_getElem?, Option.getD_some, e3, e22]; done) | (simp only [List.map_toArray, List.map_cons, List.map_nil, Act.eval, Array.getD_eq_getD_getElem?, Option.getD_some, e3, e22]; rfl)) hg (by rw [Sc22.out.size]; kernel_rfl) (by rw [Sc22.out.size]; rfl) Sc22.out.one
      refine hK.out _ _ ⟨c16, c17, c19, c20, c21, c22, gw, gb, m2_, m3_, m5_, m6_, m7_, m8_, (by rw [ha.out]; exact putSel_none (v := undef) rfl), (below_setRow' HB.out hge), ((setRow_ne _ _ _ (Ne.symm hgn)).trans X1.out), (fun g2 h2 => by rw [setRow_size]; exact GL.out g2 h2), fun h0_ => absurd ((hon 9 (by kernel_rfl)).symm.trans h0_) (by decide), ((setRow_ne _ _ _ (fun e => G2.out g hga e.symm)).trans GO.out), G2.out, (SO.out.step (fun k hk _ => setRow_ne _ _ _ (fun e => hk (by rw [e, hga])))), fun _ => (Sc16.out.step (fun k hk _ => setRow_ne _ _ _ (fun e => hk (by rw [e, hga])))), fun _ => Sc17.out, fun _ => (Sc19.out.step (fun k hk _ => setRow_ne _ _ _ (fun e => hk (by rw [e, hga])))), fun _ => (Sc20.out.step (fun k hk _ => setRow_ne _ _ _ (fun e => hk (by rw [e, hga])))), fun _ => Sc21.out, fun _ => (Sc22.out.step (fun k hk _ => setRow_ne _ _ _ (fun e => hk (by rw [e, hga])))), fun _ h1_ => absurd ((up_self b 10).symm.trans h1_) (by decide), fun _ => ⟨g, hga, hgv, setRow_at _ _ _ _ _ hg, hge, hgn⟩, Q_X2_, Q_X3_, Q_X5_, Q_X6_, Q_X7_, Q_X8_⟩
    exact steps_nil
  rintro b a w3 hall ⟨c16, c17, c19, c20, c21, c22, gw, gb, m2_, m3_, m5_, m6_, m7_, m8_, ha, Q_HB, Q_X1, Q_GL, Q_GN, Q_GO, Q_G2, Q_SO, Q_Sc16, Q_Sc17, Q_Sc19, Q_Sc20, Q_Sc21, Q_Sc22, Q_GA, Q_GB, Q_X2_, Q_X3_, Q_X5_, Q_X6_, Q_X7_, Q_X8_⟩
  clear G2 GL GN GO HB SO X1
  have hb0_ := hall 0 (by kernel_rfl)
  have hb1_ := hall 1 (by kernel_rfl)
  have hb2_ := hall 2 (by kernel_rfl)
  have hb3_ := hall 3 (by kernel_rfl)
  have hb4_ := hall 4 (by kernel_rfl)
  have hb5_ := hall 5 (by kernel_rfl)
  have hb6_ := hall 6 (by kernel_rfl)
  have hb7_ := hall 7 (by kernel_rfl)
  have hb8_ := hall 8 (by kernel_rfl)
  have hb9_ := hall 9 (by kernel_rfl)
  have hb10_ := hall 10 (by kernel_rfl)
  subst ha
  obtain rfl := Q_X2_ hb2_
  obtain rfl := Q_X3_ hb3_
  obtain rfl := Q_X5_ hb5_
  obtain rfl := Q_X6_ hb6_
  obtain rfl := Q_X7_ hb7_
  obtain rfl := Q_X8_ hb8_
  simp only [putSel, hb0_, hb1_, hb2_, hb3_, hb4_, hb5_, hb6_, hb7_, hb8_, hb9_, hb10_, if_true, Act.put, List.setIfInBounds_toArray, List.set_cons_zero, List.set_cons_succ]
  have HB := Aside0.mk Q_HB
  clear Q_HB
  have X1 := Aside0.mk Q_X1
  clear Q_X1
  have GL := Aside0.mk Q_GL
  clear Q_GL
  clear Q_GN
  have GO := Aside0.mk Q_GO
  clear Q_GO
  have G2 := Aside0.mk Q_G2
  clear Q_G2
  have SO := Aside0.mk Q_SO
  clear Q_SO
  have Sc16 := Aside0.mk (Q_Sc16 hb2_)
  clear Q_Sc16
  have Sc17 := Aside0.mk (Q_Sc17 hb3_)
  clear Q_Sc17
  have Sc19 := Aside0.mk (Q_Sc19 hb5_)
  clear Q_Sc19
  have Sc20 := Aside0.mk (Q_Sc20 hb6_)
  clear Q_Sc20
  have Sc21 := Aside0.mk (Q_Sc21 hb7_)
  clear Q_Sc21
  have Sc22 := Aside0.mk (Q_Sc22 hb8_)
  clear Q_Sc22
  clear Q_GA
  have GB := Aside0.mk (Q_GB hb10_)
  clear Q_GB
  clear hall hb0_ hb1_ hb2_ hb3_ hb4_ hb5_ hb6_ hb7_ hb8_ hb9_ hb10_
  obtain ⟨g3, hga, hgv, hg, hge, hgn⟩ := GB.out
  subst hgv
  have GQ := Aside0.mk hg
  have SQ := Sc22
  have HS2 := Aside0.mk SO.out.size
  have HS3 := Aside0.mk SQ.out.size
  clear GB GL hga hg hge hgn Sc16 Sc17 Sc19 Sc20 Sc21 Sc22 HT_ HW_ G2
  go_wp2_with (first | ((with_reducible refine gate_load (t := 24) (x := .tmp 2) rfl ?_); refine run_law (by rfl) (.agg c13) (load_run (ty := 24) (x := .tmp 2) (b := g2) (t := 24) (cs := c13) ?h1 ?h2 GO.out ?h3 Try.underlying24 ?h4) ?_; (case h1 => rfl); (case h2 => rfl); (case h3 => rfl); (case h4 => rw [HS2.out]; kernel_rfl)) | ((with_reducible refine gate_load (t := 24) (x := .tmp 3) rfl ?_); refine run_law (by rfl) (.agg c22) (load_run (ty := 24) (x := .tmp 3) (b := g3) (t := 24) (cs := c22) ?h1 ?h2 GQ.out ?h3 Try.underlying24 ?h4) ?_; (case h1 => rfl); (case h2 => rfl); (case h3 => rfl); (case h4 => rw [HS3.out]; kernel_rfl)) | (go_at_call 17; refine (equal_S HE.out SO.out SQ.out).mono ?_; rintro e w7 ⟨rfl, hb7⟩; have HB2 := Aside0.mk (below_step HB.out hb7); clear hb7))
  go_ret
  exact ⟨rfl, HB2.out⟩
end
section
open Go.RowKit Go.Proofs.Ytlidibbdacohaaa.PRingEquals Go.Proofs.YtlidibbdacohaaaW.PrintWords Go.Proofs.YtlidibbdacohaaaW.PrintLast Go.Proofs.YtlidibbdacohaaaW.PrintMore
open Go.ChangeShapes Go.WideShapes Go.Deep
set_option linter.unusedVariables false

section
variable {H : Type} {α : Type} {enc : TypeId × Value → H} {w : World} {base : Nat} {spare : Nat → Bool} {held : Bool}
/-- What reads as data of type t, with this much fuel, is of this kind. -/
def OpensN (enc : TypeId × Value → H) (w : World) (base : Nat) (spare : Nat → Bool) (held : Bool) (d : Kd α) (t : TypeId) (fuel : Nat) : Prop :=
  ∀ (cs : List Value) (x : DataW H × List MemPlace), DataW.trod enc Try.prog w base spare held fuel t cs = some x → ∃ a, d.K w a cs
theorem opens_int {t : TypeId} {k : IntKind} (ht : Try.prog.underlying t = some (.int k)) (fuel : Nat) : OpensN enc w base spare held (Kd.int k) t fuel := fun cs x h => by
  obtain ⟨n, rfl, _⟩ := DataW.trod_int ht h
  exact ⟨n, rfl⟩
theorem opens_slice {t e : TypeId} {d : Kd α} {fuel : Nat} (ht : Try.prog.underlying t = some (.slice e)) (hc : Try.prog.cellsOf e = d.sz) (hd : ∀ m, m < fuel → OpensN enc w base spare held d e m) : OpensN enc w base spare held (Kd.slice e d) t fuel := fun cs x h => by
  rcases DataW.trod_slice ht h with ⟨rfl, _⟩ | ⟨a, len, cap, elems, rest, n, hfu, rfl, _, _, hl, hm, hlen, hel, _, _⟩
  · exact ⟨[], none, 0, rfl, Nat.le_refl _, Kd.C_nil d w⟩
  · have each : ∀ i, i < len → ∃ (p : α) (c : List Value), c.length = d.sz ∧ d.K w p c ∧ ∀ j u, c[j]? = some u → w.cell? (a.add (i * d.sz + j)) = some u := by
      intro i hi
      have h1 := hel i hi
      rw [List.getElem?_eq_getElem (by omega), Option.bind_eq_some_iff] at h1
      obtain ⟨c, hcs, hy⟩ := h1
      obtain ⟨_, hcl, hcc⟩ := World.cells?_some hcs
      obtain ⟨p, hp⟩ := hd n (by omega) c _ hy
      refine ⟨p, c, by rw [hcl, hc], hp, fun j u hj => ?_⟩
      have hjl := (List.getElem?_eq_some_iff.1 hj).1
      have h2 := hcc j (by omega)
      rw [hc, hj] at h2
      rw [← h2, Addr.add_add]
    have pick : ∀ i : Fin len, ∃ p : α, ∃ c : List Value, c.length = d.sz ∧ d.K w p c ∧ ∀ j u, c[j]? = some u → w.cell? (a.add (i.val * d.sz + j)) = some u := fun i => each i.val i.isLt
    refine ⟨List.ofFn fun i => Classical.choose (pick i), some a, cap, ?_, ?_, ?_⟩
    · rw [List.length_ofFn]
    · rw [List.length_ofFn]; exact hl
    · rw [List.length_ofFn]
      refine ⟨List.length_ofFn, by simp only [maxLen] at hm; omega, fun _ => ⟨a, rfl, fun j p hj => ?_⟩⟩
      obtain ⟨hjl, hjp⟩ := List.getElem?_eq_some_iff.1 hj
      rw [List.length_ofFn] at hjl
      rw [List.getElem_ofFn] at hjp
      have h3 := Classical.choose_spec (pick ⟨j, hjl⟩)
      rw [hjp] at h3
      exact h3
end
end
section
open Go.RowKit Go.Maps Go.ChangeShapes Go.WideShapes Go.Proofs.Ytlidibbdacohaaa.PRingEquals Go.Proofs.YtlidibbdacohaaaW.PrintWords Go.Proofs.YtlidibbdacohaaaW.PrintLast Go.Proofs.YtlidibbdacohaaaW.PrintMore
set_option linter.unusedVariables false
set_option linter.unusedSimpArgs false

end
end Go.Proofs.Ytlidibbdacohaaa.R
