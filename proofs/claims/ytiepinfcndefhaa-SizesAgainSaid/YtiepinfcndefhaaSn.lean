/- The closure of calls: the walk of closed. No condition. -/
import Derived.Test.YtiepinfcndefhaaSp
import Derived.Conc.SmallLaws
namespace Go.Proofs.Ytiepinfcndefhaa.S
open Go.RowKit Go.Conc Go.Proofs.YtiepinfcndefhaaW.PrintWords Go.Proofs.YtiepinfcndefhaaW.PrintLast Go.Proofs.YtiepinfcndefhaaW.PrintMore
set_option linter.unusedVariables false
set_option linter.unusedSimpArgs false

def z81 : Value := .agg (cG ⟨.empty, .empty, List.replicate 36 0⟩)
theorem info81 : (Try.prog.info? 81).map (fun i => (i.zero, i.size, i.bytes)) = some (some z81, kGr.sz, 72) := by kernel_rfl
/-- What closed answers. -/
def CPost (l : List Cl) (w : World) (e : Ending) (w' : World) : Prop := ∃ v, e = .returned (.tuple #[v, .int .i64 (closedF l 4 2).2]) ∧ Below w.heap.size w w' ∧ match (closedF l 4 2).1 with
  | some a => kMk.R 83 w' w.heap.size (fun _ => True) v a
  | none => v = .slice none 0 0
theorem CPost.bad {l : List Cl} {w w' : World} {x : Int} (h : closedF l 4 2 = (none, x)) (hb : Below w.heap.size w w') : CPost l w (.returned (.tuple #[.slice none 0 0, .int .i64 x])) w' := ⟨.slice none 0 0, by rw [h], hb, by rw [h]⟩
theorem CPost.good {l : List Cl} {w w' : World} {a : List Mk} {v : Value} (h : closedF l 4 2 = (some a, 0)) (hb : Below w.heap.size w w') (hr : kMk.R 83 w' w.heap.size (fun _ => True) v a) : CPost l w (.returned (.tuple #[v, .int .i64 0])) w' := ⟨v, by rw [h], hb, by rw [h]; exact hr⟩
/-- The graphs that are read so far. -/
structure Fst (l : List Cl) (w W : World) (i : Nat) (v : Value) (gs : List Gr) : Prop where
  below : Below w.heap.size w W
  r : kGr.R 81 W w.heap.size (fun _ => True) v gs
  len : gs.length = i
  ok : ∀ g ∈ gs, GOk g
  eq : readL l = (readL (l.drop i)).map (gs ++ ·)
theorem Fst.none {l : List Cl} {w W : World} {i : Nat} {v : Value} {gs : List Gr} (t : Fst l w W i v gs) (hi : i < l.length) (h60 : ¬ 60 < l.length) (h : (readR l[i]).2 = false) : closedF l 4 2 = (.none, 4) := by
  have h1 : readL l = .none := by
    rw [t.eq, List.drop_eq_getElem_cons hi, readL, readR_iff, h]
    rfl
  unfold closedF
  rw [if_neg h60, h1]
theorem Fst.more {l : List Cl} {w W W2 : World} {i : Nat} {v v2 : Value} {gs : List Gr} (t : Fst l w W i v gs) (hi : i < l.length) (h : (readR l[i]).2 = true) (hg : GOk (readR l[i]).1) (hb : Below w.heap.size w W2) (hr : kGr.R 81 W2 w.heap.size (fun _ => True) v2 (gs ++ [(readR l[i]).1])) : Fst l w W2 (i + 1) v2 (gs ++ [(readR l[i]).1]) := by
  refine ⟨hb, hr, by simp [t.len], fun g hm => ?_, ?_⟩
  · rcases List.mem_append.1 hm with hm | hm
    · exact t.ok g hm
    · rw [List.mem_singleton.1 hm]; exact hg
  · rw [t.eq, List.drop_eq_getElem_cons hi, readL, readR_iff, h]
    simp only [if_true, Option.bind_some, Option.map_map]
    congr 1
    funext r
    simp
theorem readR_ok {c : Cl} (h1 : c.src.size ≤ maxLen) (h2 : c.dst.size ≤ maxLen) (h : (readR c).2 = true) : GOk (readR c).1 := by
  have h3 : readC c = some (readR c).1 := by rw [readR_iff, if_pos h]
  have h4 := readC_tab h3
  refine ⟨h4, ?_, ?_⟩
  · unfold readR; split <;> exact h1
  · unfold readR; split <;> exact h2
theorem readR_len' (c : Cl) : (readR c).1.tab.length = 36 := readR_len c
theorem chan_run (n : Nat) (W : World) (h : ¬ 60 < n) : (Instr.makeChan 124 (.int .i64 (2000 + (n : Int) + 1))).run Try.prog W = .ok (.chan (some W.heap.size)) (W.alloc (.chan (2001 + n) #[] false 0 0 false)) := by
  obtain ⟨i, hi, _, _, hb⟩ := info_parts info83
  have h1 := run_makeChan (P := Try.prog) (w := W) (dir := .both) (e := 83) (i := i) Try.underlying124 hi .i64 (2001 + n) (by omega) (by rw [hb]; omega)
  rw [show ((2001 + n : Nat) : Int) = 2000 + (n : Int) + 1 by omega] at h1
  exact h1
theorem closed_start {w wr : World} (hb : Below w.heap.size w wr) (cap : Nat) : Cs w (((((wr.alloc (.map #[] 0)).alloc (.cells #[Value.map (some wr.heap.size)] 123)).alloc (.cells #[Value.slice none 0 0] 75)).alloc (.chan cap #[] false 0 0 false)).alloc (.cells #[Value.chan (some (wr.heap.size + 1 + 1 + 1))] 124)) (wr.heap.size + 1) (wr.heap.size + 1 + 1) (wr.heap.size + 1 + 1 + 1 + 1) wr.heap.size (wr.heap.size + 1 + 1 + 1) cap [] 0 := by
  have hs := hb.size
  have st : ∀ (W : World) (o : Obj), Below W.heap.size W (W.alloc o) := fun W o => below_alloc (Below.refl _ _) o
  have hm := seen_new wr
  have z1 : (wr.alloc (.map #[] 0)).heap.size = wr.heap.size + 1 := World.size_alloc _ _
  have b1 := st wr (.map #[] 0)
  generalize wr.alloc (.map #[] 0) = W1 at hm z1 b1 ⊢
  have s2 := blk_new W1 (.cells #[Value.map (some wr.heap.size)] 123)
  have z2 : (W1.alloc (.cells #[Value.map (some wr.heap.size)] 123)).heap.size = wr.heap.size + 1 + 1 := by rw [World.size_alloc, z1]
  have b2 := st W1 (.cells #[Value.map (some wr.heap.size)] 123)
  generalize W1.alloc (.cells #[Value.map (some wr.heap.size)] 123) = W2 at s2 z2 b2 ⊢
  have s3 := blk_new W2 (.cells #[Value.slice none 0 0] 75)
  have z3 : (W2.alloc (.cells #[Value.slice none 0 0] 75)).heap.size = wr.heap.size + 1 + 1 + 1 := by rw [World.size_alloc, z2]
  have b3 := st W2 (.cells #[Value.slice none 0 0] 75)
  generalize W2.alloc (.cells #[Value.slice none 0 0] 75) = W3 at s3 z3 b3 ⊢
  have s4 := blk_new W3 (.chan cap #[] false 0 0 false)
  have z4 : (W3.alloc (.chan cap #[] false 0 0 false)).heap.size = wr.heap.size + 1 + 1 + 1 + 1 := by rw [World.size_alloc, z3]
  have b4 := st W3 (.chan cap #[] false 0 0 false)
  generalize W3.alloc (.chan cap #[] false 0 0 false) = W4 at s4 z4 b4 ⊢
  have s5 := blk_new W4 (.cells #[Value.chan (some (wr.heap.size + 1 + 1 + 1))] 124)
  have b5 := st W4 (.cells #[Value.chan (some (wr.heap.size + 1 + 1 + 1))] 124)
  generalize W4.alloc (.cells #[Value.chan (some (wr.heap.size + 1 + 1 + 1))] 124) = W5 at s5 b5 ⊢
  rw [z1] at s2
  rw [z2] at s3
  rw [z3] at s4
  rw [z4] at s5
  have b25 := below_step (below_step b3 b4) b5
  have b35 := below_step b4 b5
  have b15 := below_step b2 b25
  refine ⟨below_step hb (below_step b1 b15), blk_below s2 b25, ⟨_, blk_below s3 b35, Kd.R_nil _ _ _ _ _⟩, s5, seen_kept hm (grown_of_below b15 none) (by simp), ⟨#[], 0, 0, blk_below s4 b5, rfl, fun i m h => by cases h⟩, ⟨by omega, by omega, by omega, by omega, by omega⟩, ⟨by omega, by omega, by omega⟩⟩
theorem built_run {a : Act} {o : Oper} {ty : TypeId} {x y : Operand} {r : Value} {W : World} (ho : o.op = .build ty #[(0, x), (1, y)]) (hb : ∀ W : World, (Instr.build ty #[(0, a.eval x), (1, a.eval y)]).run Try.prog W = .ok r W) : (execOp a.eval o).run Try.prog W = .ok (.value r) W := by
  have h := hb W
  have e : (#[(0, x), (1, y)] : Array (Nat × Operand)).map (fun (i, x) => (i, a.eval x)) = #[(0, a.eval x), (1, a.eval y)] := by simp only [List.map_toArray, List.map_cons, List.map_nil]
  generalize hI : Instr.build ty #[(0, a.eval x), (1, a.eval y)] = I at h
  rw [← e] at hI
  unfold execOp
  rw [ho]
  simp only [hI]
  simp [Sem.run_bind, Sem.run_pure, Result.andThen, h]
theorem append_run {a : Act} {o : Oper} {s x : Operand} {u y v : Value} {W W2 : World} (ho : o.op = .call { callee := .builtin .append, args := #[s, x], argTypes := #[36, 36] }) (ht : o.type = 36) (hs : a.eval s = u) (hx : a.eval x = y)
    (h : (Builtin.append_ #[36, 36] 36 #[u, y]).run Try.prog W = .ok v W2) : (execOp a.eval o).run Try.prog W = .ok (.value v) W2 := by
  subst hs
  subst hx
  unfold execOp
  rw [ho]
  simp [resolve, invoke, builtin, ht, h, Result.andThen]
theorem closure_run {a : Act} {o : Oper} {x y : Operand} {ts : Array TypeId} {f : FuncId} {fn : Func} {caps : Array Value} {v : Value} {W : World} (hf : Try.prog.funcs[f]? = some fn) (hname : (fn.name == "runtime.NumGoroutine") = false) (hb : fn.body.isSome = true)
    (ho : o.op = .call { callee := .value x, args := #[y], argTypes := ts }) (hx : a.eval x = .func (.func f) #[] caps) (hy : a.eval y = v) {args : Array Value} (hargs : #[v] ++ caps = args) : (execOp a.eval o).run Try.prog W = .ok (.enter f args) W := by
  subst hargs
  have he := enters_ hf hname hb (#[v] ++ caps) W
  subst hy
  unfold execOp
  rw [ho]
  simp only [resolve]
  have e : (#[y] : Array Operand).map a.eval = #[a.eval y] := by simp only [List.map_toArray, List.map_cons, List.map_nil]
  rw [e, hx]
  simp [Deferred.ofValue, invoke, he, Result.andThen]
/-- The frame at the third loop's head. -/
structure FrD (a : Act) (v0 v4 : Value) (sb ab tb : Nat) : Prop where
  size : a.tmps.size = 97
  d : a.defers = []
  h0 : a.tmps.getD 0 undef = v0
  h4 : a.tmps.getD 4 undef = v4
  h9 : a.tmps.getD 9 undef = .pointer (some ⟨sb, 0, none⟩)
  h10 : a.tmps.getD 10 undef = .pointer (some ⟨ab, 0, none⟩)
  h11 : a.tmps.getD 11 undef = .pointer (some ⟨tb, 0, none⟩)
  h12 : a.tmps.getD 12 undef = .func (.func 65) #[] #[.pointer (some ⟨sb, 0, none⟩), .pointer (some ⟨ab, 0, none⟩), .pointer (some ⟨tb, 0, none⟩)]
set_option maxRecDepth 100000 in
theorem FrD.form {a : Act} {v0 v4 : Value} {sb ab tb : Nat} (h : FrD a v0 v4 sb ab tb) : ∃ f : Nat → Value, a = ⟨#[v0, f 1, f 2, f 3, v4, f 5, f 6, f 7, f 8, .pointer (some ⟨sb, 0, none⟩), .pointer (some ⟨ab, 0, none⟩), .pointer (some ⟨tb, 0, none⟩), .func (.func 65) #[] #[.pointer (some ⟨sb, 0, none⟩), .pointer (some ⟨ab, 0, none⟩), .pointer (some ⟨tb, 0, none⟩)], f 13, f 14, f 15, f 16, f 17, f 18, f 19, f 20, f 21, f 22, f 23, f 24, f 25, f 26, f 27, f 28, f 29, f 30, f 31, f 32, f 33, f 34, f 35, f 36, f 37, f 38, f 39, f 40, f 41, f 42, f 43, f 44, f 45, f 46, f 47, f 48, f 49, f 50, f 51, f 52, f 53, f 54, f 55, f 56, f 57, f 58, f 59, f 60, f 61, f 62, f 63, f 64, f 65, f 66, f 67, f 68, f 69, f 70, f 71, f 72, f 73, f 74, f 75, f 76, f 77, f 78, f 79, f 80, f 81, f 82, f 83, f 84, f 85, f 86, f 87, f 88, f 89, f 90, f 91, f 92, f 93, f 94, f 95, f 96], []⟩ := by
  obtain ⟨t, df⟩ := a
  obtain ⟨hs, hd, h0, h4, h9, h10, h11, h12⟩ := h
  have hd' : df = [] := hd
  subst hd'
  refine ⟨fun i => t.getD i undef, ?_⟩
  have e : t = ((List.range 97).map fun i => t.getD i undef).toArray := by
    have hs' : t.size = 97 := hs
    apply Array.ext (by simp [hs'])
    intro i h1 h2
    simp [Array.getD, h1]
  have e2 : ((List.range 97).map fun i => t.getD i undef).toArray = #[t.getD 0 undef, t.getD 1 undef, t.getD 2 undef, t.getD 3 undef, t.getD 4 undef, t.getD 5 undef, t.getD 6 undef, t.getD 7 undef, t.getD 8 undef, t.getD 9 undef, t.getD 10 undef, t.getD 11 undef, t.getD 12 undef, t.getD 13 undef, t.getD 14 undef, t.getD 15 undef, t.getD 16 undef, t.getD 17 undef, t.getD 18 undef, t.getD 19 undef, t.getD 20 undef, t.getD 21 undef, t.getD 22 undef, t.getD 23 undef, t.getD 24 undef, t.getD 25 undef, t.getD 26 undef, t.getD 27 undef, t.getD 28 undef, t.getD 29 undef, t.getD 30 undef, t.getD 31 undef, t.getD 32 undef, t.getD 33 undef, t.getD 34 undef, t.getD 35 undef, t.getD 36 undef, t.getD 37 undef, t.getD 38 undef, t.getD 39 undef, t.getD 40 undef, t.getD 41 undef, t.getD 42 undef, t.getD 43 undef, t.getD 44 undef, t.getD 45 undef, t.getD 46 undef, t.getD 47 undef, t.getD 48 undef, t.getD 49 undef, t.getD 50 undef, t.getD 51 undef, t.getD 52 undef, t.getD 53 undef, t.getD 54 undef, t.getD 55 undef, t.getD 56 undef, t.getD 57 undef, t.getD 58 undef, t.getD 59 undef, t.getD 60 undef, t.getD 61 undef, t.getD 62 undef, t.getD 63 undef, t.getD 64 undef, t.getD 65 undef, t.getD 66 undef, t.getD 67 undef, t.getD 68 undef, t.getD 69 undef, t.getD 70 undef, t.getD 71 undef, t.getD 72 undef, t.getD 73 undef, t.getD 74 undef, t.getD 75 undef, t.getD 76 undef, t.getD 77 undef, t.getD 78 undef, t.getD 79 undef, t.getD 80 undef, t.getD 81 undef, t.getD 82 undef, t.getD 83 undef, t.getD 84 undef, t.getD 85 undef, t.getD 86 undef, t.getD 87 undef, t.getD 88 undef, t.getD 89 undef, t.getD 90 undef, t.getD 91 undef, t.getD 92 undef, t.getD 93 undef, t.getD 94 undef, t.getD 95 undef, t.getD 96 undef] := rfl
  rw [e2] at e
  have g0 : t.getD 0 undef = v0 := h0
  have g4 : t.getD 4 undef = v4 := h4
  have g9 := h9
  have g10 := h10
  have g11 := h11
  have g12 := h12
  simp only at g9 g10 g11 g12
  rw [← g0, ← g4, ← g12, ← g9, ← g10, ← g11]
  exact congrArg (fun t => (⟨t, []⟩ : Act)) e
set_option maxHeartbeats 4000000 in
set_option maxRecDepth 100000 in
theorem closed_calls (A : Option Addr) (cp : Nat) (l : List Cl) (w : World) (h : kCl.C w A l.length l) (hs : ∀ c ∈ l, c.src.size ≤ maxLen ∧ c.dst.size ≤ maxLen ∧ c.arcs.length ≤ 1000000) (hl : l.length ≤ 9223372036854775807) :
    Calls Try.prog 39 #[.slice A l.length cp] w (CPost l w) := by
  have HC := Aside0.mk h
  have HSZ := Aside0.mk hs
  have HLL := Aside0.mk hl
  clear h hs hl
  refine calls_of_loneTo (hno := by rintro w' ⟨_, h, _⟩; cases h) fun cs => ?_
  generalize hB : ({ (default : Frame) with fn := 39, kind := .normal } : Frame) = B
  have HB := Aside0.mk hB
  have e : Frame.enter Try.prog 39 #[.slice A l.length cp] .normal = B.at ⟨#[.slice A l.length cp, undef, undef, undef, undef, undef, undef, undef, undef, undef, undef, undef, undef, undef, undef, undef, undef, undef, undef, undef, undef, undef, undef, undef, undef, undef, undef, undef, undef, undef, undef, undef, undef, undef, undef, undef, undef, undef, undef, undef, undef, undef, undef, undef, undef, undef, undef, undef, undef, undef, undef, undef, undef, undef, undef, undef, undef, undef, undef, undef, undef, undef, undef, undef, undef, undef, undef, undef, undef, undef, undef, undef, undef, undef, undef, undef, undef, undef, undef, undef, undef, undef, undef, undef, undef, undef, undef, undef, undef, undef, undef, undef, undef, undef, undef, undef, undef], []⟩ [.code (Try.f39.body.getD .skip)] := by
    rw [← hB]
    simp [Frame.enter, Frame.at, Try.func39, Try.f39]
  rw [e]
  clear e hB
  simp only [Try.f39, Option.getD_some]
  refine loneTo_seq (loneTo_wp ?_)
  go_wp2
  change LoneTo _ _ _ _
  by_cases h60 : 60 < l.length
  · have d60 : decide ((60 : Int) < (l.length : Int)) = true := decide_eq_true (by omega)
    have HR := Aside0.mk (show closedF l 4 2 = (none, 2) by unfold closedF; rw [if_pos h60])
    clear h60
    refine loneTo_seq (loneTo_wp ?_)
    go_wp2
    intro todo
    have hb := HB.out
    subst hb
    exact LoneTo.done ⟨.returned (.tuple #[.slice none 0 0, .int .i64 2]), _, rfl, .bad HR.out (Below.refl _ _), rfl, rfl, rfl, rfl, _, Try.func39, by simp [results, Try.f39, Frame.at]⟩
  have d60 : decide ((60 : Int) < (l.length : Int)) = false := decide_eq_false (by omega)
  have H60 := Aside0.mk h60
  clear h60
  refine loneTo_seq (loneTo_wp ?_)
  go_wp2
  change LoneTo _ _ _ _
  clear d60
  refine loneTo_seq (loneTo_wp ?_)
  go_wp2
  change LoneTo _ _ _ _
  refine loneTo_seq (loneTo_seq (loneTo_wp ?_))
  go_wp2
  change LoneTo _ _ _ _
  obtain ⟨cz, hcz⟩ : ∃ cz, cz = cG ⟨.empty, .empty, List.replicate 36 0⟩ := ⟨_, rfl⟩
  have HZR := Aside0.mk (zero81 cz hcz)
  have HZS := Aside0.mk (show cz.size = 38 by rw [hcz]; exact cG_size' (by simp))
  have HCZ := Aside0.mk hcz
  clear hcz
  refine loneTo_wp ?_
  go_wp2
  go_loopg [4, 23] l.length (fun kq v4 v23 w' => ∃ (i : Nat) (gs : List Gr), v23 = .int .i64 (i : Int) ∧ Aside0 (kq + i = l.length) ∧ Aside0 (Fst l w w' i v4 gs))
  case atStart => exact ⟨0, [], rfl, ⟨rfl⟩, ⟨⟨Below.refl _ _, Kd.R_nil _ _ _ _ _, rfl, by simp, by simp⟩⟩⟩
  case round =>
    obtain ⟨i, gs, rfl, HK, HF⟩ := hrel
    by_cases hlt : i < l.length
    · have hdx : decide ((i : Int) < (l.length : Int)) = true := decide_eq_true (by omega)
      have hi0 : (i : Int) < (l.length : Int) := by omega
      have HLT := Aside0.mk hlt
      obtain ⟨ad, A1, c1, e, q0, q1, q2, hr⟩ := cl_get (Kd.C_below HC.out HF.out.below) i hlt
      subst e
      obtain ⟨hs1, hs2, hs3⟩ := HSZ.out l[i] (List.getElem_mem hlt)
      have hib : wrap64 ((i : Int) + 1) = (i : Int) + 1 := by have := HLL.out; unfold wrap64; omega
      have HOK : Aside0 ((readR l[i]).2 = true → GOk (readR l[i]).1) := ⟨fun h => readR_ok hs1 hs2 h⟩
      obtain ⟨cg, hcg⟩ : ∃ c, c = cG (readR l[i]).1 := ⟨_, rfl⟩
      have HGS := Aside0.mk (show cg.size = 38 by rw [hcg]; exact cG_size' (readR_len' _))
      have HG1 := Aside0.mk (show cg.all (·.oneCell') = true by rw [hcg]; exact cG_one _)
      cases hb : (readR l[i]).2 with
      | false =>
        have HX : Aside0 (∀ w', Below wr.heap.size wr w' → Calls Try.prog 45 #[.agg #[.string l[i].src, .string l[i].dst, .slice A1 l[i].arcs.length c1]] w' fun e w2 => e = .returned (.tuple #[.agg cg, .bool false]) ∧ Below w'.heap.size w' w2) := ⟨fun w' hw => by
          rw [hcg, ← hb]
          exact read_calls A1 c1 l[i] w' (Kd.C_below hr hw) hs3⟩
        have HR := Aside0.mk (HF.out.none hlt H60.out hb)
        have HBW := Aside0.mk HF.out.below
        clear hr hs1 hs2 hs3 hb hcg HOK HF
        generalize l[i].src = x1 at q0 HX
        generalize l[i].dst = x2 at q1 HX
        generalize l[i].arcs.length = x3 at q2 HX
        go_wp2_with (first | ((with_reducible refine gate_alloc (t := 81) rfl ?_); refine alloc_zero rfl rfl cz HZR.out ?_) | ((with_reducible refine gate_store (t := 81) (p := 7) rfl ?_); refine store_last rfl rfl rfl _ 81 cz cg (by rfl) (by rfl) rfl (by rw [HGS.out]; kernel_rfl) (HZS.out.trans HGS.out.symm) HG1.out ?_) | (go_at_call 45; refine (HX.out _ (below_alloc (Below.refl _ _) _)).mono ?_; rintro e w5 ⟨rfl, hb5⟩; have HB5 := Aside0.mk (below_step HBW.out (below_step (below_alloc (Below.refl wr.heap.size wr) _) hb5)); clear hb5))
        intro todo
        have hb := HB.out
        subst hb
        exact LoneTo.done ⟨.returned (.tuple #[.slice none 0 0, .int .i64 4]), _, rfl, .bad HR.out (below_alloc HB5.out _), rfl, rfl, rfl, rfl, _, Try.func39, by simp [results, Try.f39, Frame.at]⟩
      | true =>
        have HX : Aside0 (∀ w', Below wr.heap.size wr w' → Calls Try.prog 45 #[.agg #[.string l[i].src, .string l[i].dst, .slice A1 l[i].arcs.length c1]] w' fun e w2 => e = .returned (.tuple #[.agg cg, .bool true]) ∧ Below w'.heap.size w' w2) := ⟨fun w' hw => by
          rw [hcg, ← hb]
          exact read_calls A1 c1 l[i] w' (Kd.C_below hr hw) hs3⟩
        have HGO := Aside0.mk (HOK.out hb)
        have HMO := Aside0.mk (fun v2 W2 => HF.out.more (v2 := v2) (W2 := W2) hlt hb HGO.out)
        have HP := Aside0.mk (show cg.toList = (cG (readR l[i]).1).toList ∧ GOk (readR l[i]).1 from ⟨by rw [hcg], HGO.out⟩)
        have HBW := Aside0.mk HF.out.below
        have HRW := Aside0.mk HF.out.r
        have HGL := Aside0.mk (show gs.length < 1000 by have := H60.out; rw [HF.out.len]; omega)
        clear hr hs1 hs2 hs3 hb hcg HOK HF HGO
        generalize hgi : (readR l[i]).1 = gi at HMO HP
        clear hgi
        have hgs := HGS.out
        generalize l[i].src = x1 at q0 HX
        generalize l[i].dst = x2 at q1 HX
        generalize l[i].arcs.length = x3 at q2 HX
        go_wp2_with (first | ((with_reducible refine gate_alloc (t := 81) rfl ?_); refine alloc_zero rfl rfl cz HZR.out ?_) | ((with_reducible refine gate_store (t := 81) (p := 7) rfl ?_); refine store_last rfl rfl rfl _ 81 cz cg (by rfl) (by rfl) rfl (by rw [HGS.out]; kernel_rfl) (HZS.out.trans HGS.out.symm) HG1.out ?_) | ((with_reducible refine gate_load (t := 81) (x := .tmp 7) rfl ?_); refine load_whole rfl rfl _ 81 cg _ (by rfl) (blk_new _ _) Try.underlying81 rfl (by rw [HGS.out]; kernel_rfl) ?_) | (go_at_call 45; refine (HX.out _ (below_alloc (Below.refl _ _) _)).mono ?_; rintro e w5 ⟨rfl, hb5⟩; have HB5 := Aside0.mk (below_step (below_alloc (Below.refl wr.heap.size wr) _) hb5); clear hb5) | (at_builtin; go_loud (rw [lay_n HGS.out (by rfl)]; refine Kd.R_append kGr (w0 := w) (W := w5.alloc (.cells cg 81)) w.heap.size rfl (.tmp 34) (.tmp 36) 122 81 z81 72 rfl Try.underlying122 info81 (by rfl) (by decide) (by omega) u4 gs gi cg.toList (fun _ => True) (fun k => True ∧ some k ≠ u4.ownBlock) rfl (by rw [World.size_alloc]; rfl) HP.out (fun _ hk => hk) (fun _ _ => trivial) (Kd.R_below HRW.out (below_alloc HB5.out _)) (below_step HBW.out (below_alloc HB5.out _)) (below_step HBW.out (below_alloc HB5.out _)).size (by have := HGL.out; omega) ?_; intro v1 w1 hr1 hb1 hg1 hat1; have HR1 := Aside0.mk hr1; have HB1 := Aside0.mk hb1; clear hr1 hb1 hg1 hat1)))
        go_roundg (l.length - i - 1)
        case measure => have := HK.out; omega
        case rel => exact ⟨i + 1, gs ++ [gi], by go_num, ⟨by have := HK.out; have := HLT.out; omega⟩, ⟨HMO.out _ _ HB1.out HR1.out⟩⟩
    · have hdx : decide ((i : Int) < (l.length : Int)) = false := decide_eq_false (by omega)
      have HFS := Aside0.mk (show readL l = some gs by
        have := HF.out.eq
        rw [List.drop_eq_nil_of_le (by omega)] at this
        rw [this]
        simp [readL])
      have HGN := Aside0.mk (show gs.length = l.length by have := HF.out.len; have := HK.out; omega)
      have HGO := Aside0.mk HF.out.ok
      have HG0 := Aside0.mk (Kd.R_slice HF.out.r)
      obtain ⟨vA, vc, ev⟩ := HG0.out
      have HGR := Aside0.mk (by have := HF.out.r; rw [ev] at this; exact this)
      have HBW := Aside0.mk HF.out.below
      subst ev
      clear HF HK HG0
      go_wp2
      clear hdx hlt
      change LoneTo _ _ _ _
      have hmm := @run_makeMap Try.prog
      refine loneTo_seq (loneTo_wp ?_)
      go_wp2
      change LoneTo _ _ _ _
      clear hmm
      refine loneTo_seq (loneTo_wp ?_)
      go_wp2
      change LoneTo _ _ _ _
      have hmc := fun W : World => chan_run l.length W H60.out
      have hbd : (l.length : Int) ≤ 60 := by have := H60.out; omega
      refine loneTo_seq (loneTo_wp ?_)
      go_wp2
      change LoneTo _ _ _ _
      clear hmc hbd
      have HCS := Aside0.mk (closed_start HBW.out (2001 + l.length))
      have HGC := Aside0.mk (Kd.R_below (Kd.R_below (Kd.R_below (Kd.R_below (Kd.R_below HGR.out (below_alloc (Below.refl _ _) (.map #[] 0))) (below_alloc (Below.refl _ _) (.cells #[Value.map (some wr.heap.size)] 123))) (below_alloc (Below.refl _ _) (.cells #[Value.slice none 0 0] 75))) (below_alloc (Below.refl _ _) (.chan (2001 + l.length) #[] false 0 0 false))) (below_alloc (Below.refl _ _) (.cells #[Value.chan (some (wr.heap.size + 1 + 1 + 1))] 124)))
      clear HGR HBW
      have HLP := Aside0.mk (Lp.mk HCS.out HGC.out (by simp) (by simp) (by simp))
      clear HCS HGC
      generalize ((((wr.alloc (.map #[] 0)).alloc (.cells #[Value.map (some wr.heap.size)] 123)).alloc (.cells #[Value.slice none 0 0] 75)).alloc (.chan (2001 + l.length) #[] false 0 0 false)).alloc (.cells #[Value.chan (some (wr.heap.size + 1 + 1 + 1))] 124) = W5 at HLP ⊢
      generalize wr.heap.size + 1 + 1 + 1 + 1 = tb at HLP ⊢
      generalize wr.heap.size + 1 + 1 + 1 = cb at HLP ⊢
      generalize wr.heap.size + 1 + 1 = ab at HLP ⊢
      generalize wr.heap.size + 1 = sb at HLP ⊢
      generalize wr.heap.size = mb at HLP ⊢
      refine loneTo_seq (loneTo_wp ?_)
      go_wp2
      change LoneTo _ _ _ _
      refine loneTo_seq (loneTo_seq (loneTo_wp ?_))
      go_wp2
      change LoneTo _ _ _ _
      have HCF := Aside0.mk (show closedF l 4 2 = match closedQ gs with | none => (none, 2) | some a => (some a, 0) by unfold closedF; rw [if_neg H60.out, HFS.out]; rfl)
      have HQ0 := Aside0.mk (show closedQ gs = (addL gs (gs.length - 0) 0 []).bind fun a => runQ gs 2001 0 a from rfl)
      refine loneTo_wp ?_
      go_wp2
      go_loopg [48] gs.length (fun kq v48 w' => ∃ (i : Nat) (all : List Mk), v48 = .int .i64 (i : Int) ∧ Aside0 (kq + i = gs.length) ∧ Aside0 (Lp w w' sb ab tb mb cb (2001 + l.length) gs vA vc all 0) ∧ Aside0 (closedQ gs = (addL gs (gs.length - i) i all).bind fun a => runQ gs 2001 0 a))
      case atStart => exact ⟨0, [], rfl, ⟨rfl⟩, HLP, HQ0⟩
      case round =>
        clear HLP HQ0
        obtain ⟨i, all, rfl, HK, HT, HQ⟩ := hrel
        by_cases hlt : i < gs.length
        · have hdx : decide ((i : Int) < (gs.length : Int)) = true := decide_eq_true (by omega)
          have hi0 : (i : Int) < (gs.length : Int) := by omega
          obtain ⟨ad, e, hg, hc⟩ := gr_get (Kd.R_reads' HT.out.r).2.2 i hlt
          subst e
          have HLT := Aside0.mk hlt
          have HQ1 := Aside0.mk (show closedQ gs = ((addM all gs[i] [(i : Int)]).bind fun b => addL gs (gs.length - (i + 1)) (i + 1) b).bind fun a => runQ gs 2001 0 a by
            rw [HQ.out, show gs.length - i = (gs.length - (i + 1)) + 1 by omega, addL, List.getD_eq_getElem?_getD, List.getElem?_eq_getElem hlt]
            rfl)
          have hib : wrap64 ((i : Int) + 1) = (i : Int) + 1 := by have := H60.out; have := HGN.out; unfold wrap64; omega
          obtain ⟨cg, hcg⟩ : ∃ c, c = cG gs[i] := ⟨_, rfl⟩
          have HCC := Aside0.mk (fun j u (h : cg[j]? = some u) => hc j u (by rw [← hcg]; exact h))
          have HGS := Aside0.mk (show cg.size = 38 by rw [hcg]; exact cG_size hg.tab)
          have HG1 := Aside0.mk (show cg.all (·.oneCell') = true by rw [hcg]; exact cG_one _)
          obtain ⟨cm, hcm⟩ : ∃ c, c = cg.push (.slice (some ⟨wr.heap.size + 1, 0, none⟩) 1 1) := ⟨_, rfl⟩
          have HBM := Aside0.mk (fun W : World => show (Instr.build 83 #[(0, .agg cg), (1, .slice (some ⟨wr.heap.size + 1, 0, none⟩) 1 1)]).run Try.prog W = .ok (.agg cm) W from by rw [hcm]; exact build_made W cg HGS.out _ rfl)
          have hbw : Below wr.heap.size wr ((wr.alloc (.cells cg 81)).alloc (.cells #[.int .i64 (i : Int)] 3)) := below_step (below_alloc (Below.refl _ _) _) (below_alloc (Below.refl _ _) _)
          have hway : WayR ((wr.alloc (.cells cg 81)).alloc (.cells #[.int .i64 (i : Int)] 3)) w.heap.size (.slice (some ⟨wr.heap.size + 1, 0, none⟩) 1 1) [(i : Int)] := by
            have h1 := way_one (wr.alloc (.cells cg 81)) w.heap.size (i : Int) (by rw [World.size_alloc]; have := HT.out.cs.below.size; omega)
            rw [World.size_alloc] at h1
            exact h1
          have hcall := add_calls (HT.out.cs.go hbw) hg hway HT.out.len HT.out.pos (by have := HT.out.len; omega)
          rw [show cM gs[i] (.slice (some ⟨wr.heap.size + 1, 0, none⟩) 1 1) = cm by rw [hcm, hcg]; rfl] at hcall
          cases hadd : addM all gs[i] [(i : Int)] with
          | none =>
            have HCX := Aside0.mk (hcall.mono (R' := fun e W2 => e = .returned (.bool false) ∧ Below w.heap.size w W2) (by
              rintro e W2 (⟨a2, h, _⟩ | ⟨_, h1, h2⟩)
              · rw [hadd] at h; cases h
              · exact ⟨h1, h2⟩))
            have HR := Aside0.mk (show closedF l 4 2 = (none, 2) by
              rw [HCF.out, HQ1.out, hadd]
              rfl)
            clear hcall hway hbw hcg hcm hg hc hadd
            go_wp2_with (first | ((with_reducible refine gate_load (t := 81) (x := .tmp 51) rfl ?_); refine run_law (by rfl) (.agg cg) (cells_run (ty := 81) (x := .tmp 51) (ad := ad.add (i * 38)) (cs := cg) ?h1 ?h2 ?hs ?h3 Try.underlying81 ?h4) ?_; (case h1 => rfl); (case h2 => rfl); (case hs => exact fun j v hv => by rw [Addr.add_add]; exact HCC.out j v hv); (case h3 => rfl); (case h4 => rw [HGS.out]; kernel_rfl)) | ((with_reducible refine gate_alloc (t := 81) rfl ?_); refine alloc_zero rfl rfl cz HZR.out ?_) | ((with_reducible refine gate_store (t := 81) (p := 14) rfl ?_); refine store_last rfl rfl rfl _ 81 cz cg (by rfl) (by rfl) rfl (by rw [HGS.out]; kernel_rfl) (HZS.out.trans HGS.out.symm) HG1.out ?_) | ((with_reducible refine gate_load (t := 81) (x := .tmp 14) rfl ?_); refine load_whole rfl rfl _ 81 cg _ (by rfl) (blk_new _ _) Try.underlying81 rfl (by rw [HGS.out]; kernel_rfl) ?_) | ((with_reducible refine gate_build (t := 83) rfl ?_); refine value_law rfl (.agg cm) ?hr ?_; (case hr => exact built_run rfl HBM.out); intro ub hub; subst hub) | (go_at_call 65; refine HCX.out.mono ?_; rintro e w5 ⟨rfl, hb5⟩; have HB5 := Aside0.mk hb5; clear hb5))
            intro todo
            have hb := HB.out
            subst hb
            exact LoneTo.done ⟨.returned (.tuple #[.slice none 0 0, .int .i64 2]), _, rfl, .bad HR.out HB5.out, rfl, rfl, rfl, rfl, _, Try.func39, by simp [results, Try.f39, Frame.at]⟩
          | some all2 =>
            have HCX := Aside0.mk (hcall.mono (R' := fun e W2 => e = .returned (.bool true) ∧ Lp w W2 sb ab tb mb cb (2001 + l.length) gs (some ad) vc all2 0) (by
              rintro e W2 (⟨a2, h, h1, h2, h3⟩ | ⟨h, _⟩)
              · rw [hadd] at h; cases h
                exact ⟨h1, h2, graphs_same (Kd.R_below HT.out.r hbw) h3, (addM_len HT.out.len hadd).1, Nat.zero_le _, addM_ways (by simp) HT.out.ways hadd⟩
              · rw [hadd] at h; cases h))
            have HQ2 := Aside0.mk (show closedQ gs = (addL gs (gs.length - (i + 1)) (i + 1) all2).bind fun a => runQ gs 2001 0 a by
              rw [HQ1.out, hadd]
              rfl)
            clear hcall hway hbw hcg hcm hg hc hadd HQ HQ1
            go_wp2_with (first | ((with_reducible refine gate_load (t := 81) (x := .tmp 51) rfl ?_); refine run_law (by rfl) (.agg cg) (cells_run (ty := 81) (x := .tmp 51) (ad := ad.add (i * 38)) (cs := cg) ?h1 ?h2 ?hs ?h3 Try.underlying81 ?h4) ?_; (case h1 => rfl); (case h2 => rfl); (case hs => exact fun j v hv => by rw [Addr.add_add]; exact HCC.out j v hv); (case h3 => rfl); (case h4 => rw [HGS.out]; kernel_rfl)) | ((with_reducible refine gate_alloc (t := 81) rfl ?_); refine alloc_zero rfl rfl cz HZR.out ?_) | ((with_reducible refine gate_store (t := 81) (p := 14) rfl ?_); refine store_last rfl rfl rfl _ 81 cz cg (by rfl) (by rfl) rfl (by rw [HGS.out]; kernel_rfl) (HZS.out.trans HGS.out.symm) HG1.out ?_) | ((with_reducible refine gate_load (t := 81) (x := .tmp 14) rfl ?_); refine load_whole rfl rfl _ 81 cg _ (by rfl) (blk_new _ _) Try.underlying81 rfl (by rw [HGS.out]; kernel_rfl) ?_) | ((with_reducible refine gate_build (t := 83) rfl ?_); refine value_law rfl (.agg cm) ?hr ?_; (case hr => exact built_run rfl HBM.out); intro ub hub; subst hub) | (go_at_call 65; refine HCX.out.mono ?_; rintro e w5 ⟨rfl, hb5⟩; have HT5 := Aside0.mk hb5; clear hb5))
            go_roundg (gs.length - i - 1)
            case measure => have := HK.out; omega
            case rel => exact ⟨i + 1, all2, by go_num, ⟨by have := HK.out; have := HLT.out; omega⟩, HT5, HQ2⟩
        · have hdx : decide ((i : Int) < (gs.length : Int)) = false := decide_eq_false (by omega)
          have HQ1 := Aside0.mk (show closedQ gs = runQ gs 2001 0 all by
            rw [HQ.out, show gs.length - i = 0 by omega, addL]
            rfl)
          clear HQ HK
          go_wp2
          clear hdx hlt
          change LoneTo _ _ _ _
          refine loneTo_block (loneTo_loop ?_)
          refine lone_ind (fun d a W => ∃ (p : Nat) (all : List Mk), d + p = 2001 ∧ closedQ gs = runQ gs d p all ∧ Lp w W sb ab tb mb cb (2001 + l.length) gs vA vc all p ∧ FrD a (.slice A l.length cp) (.slice vA gs.length vc) sb ab tb) ?zero ?step 2001 _ _ ⟨0, all, rfl, HQ1.out, HT.out, ⟨rfl, rfl, rfl, rfl, rfl, rfl, rfl, rfl⟩⟩
          case zero =>
            rintro a W ⟨p, all, h1, _, h2, _⟩
            have := h2.pos
            have := h2.len
            omega
          case step =>
            clear HQ1 HT
            clear all wr
            rintro d IH a W ⟨p, all, h1, h2, h3, h4⟩
            obtain ⟨f, rfl⟩ := h4.form
            clear h4
            have HIH := Aside0.mk IH
            have HDP := Aside0.mk h1
            have HQ := Aside0.mk h2
            have HT := Aside0.mk h3
            clear IH h1 h2 h3
            have t0 := blk_at HT.out.cs.tB (k := 0) rfl
            refine loneTo_block (loneTo_seq (loneTo_wp ?_))
            go_wp2
            change LoneTo _ _ _ _
            clear t0
            have hk : B.kind ≠ .early := by
              rw [← HB.out]
              intro h
              cases h
            by_cases hlt : p < all.length
            · obtain ⟨buf, s, r, v, hcb, h0, hgd, hg, hway, hlp⟩ := HT.out.took hlt
              have HQ1 := Aside0.mk (show closedQ gs = (extL gs all[p] gs.length 0 all).bind fun b => runQ gs d (p + 1) b by
                rw [HQ.out, runQ, if_pos hlt, List.getD_eq_getElem?_getD, List.getElem?_eq_getElem hlt]
                rfl)
              have HML := Aside0.mk (HT.out.ways p all[p] (List.getElem?_eq_getElem hlt))
              refine loneTo_seq (loneTo_region' (l := [0, 1, 2]) rfl ?_)
              refine loneTo_take (x := .tmp 61) (e := 83) (z := z83) rfl rfl rfl hk (by rfl) (zero83_run W) hcb h0 ?_
              rw [hgd]
              clear hgd hcb h0 HT HQ
              generalize W.setChan cb (2001 + l.length) (buf.extract 1 buf.size) false s (r + 1) false = W2 at hway hlp ⊢
              generalize all[p] = m at hg hway HQ1 HML ⊢
              refine loneTo_value (v := .int .i64 0) (w' := W2) rfl rfl hk (by go_simp) ?_
              refine loneTo_value (v := .bool true) (w' := W2) rfl rfl hk (by go_simp) ?_
              refine loneTo_region_end ?_
              obtain ⟨cm, hcm⟩ : ∃ c, c = cM m.1 v := ⟨_, rfl⟩
              rw [← hcm]
              have HCM := Aside0.mk hcm
              have HMS := Aside0.mk (show cm.size = 39 by rw [hcm]; exact cM_size hg v)
              obtain ⟨cgm, hcgm⟩ : ∃ c, c = cG m.1 := ⟨_, rfl⟩
              have HGMS := Aside0.mk (show cgm.size = 38 by rw [hcgm]; exact cG_size hg.tab)
              have HATM := Aside0.mk (fun j u (h : cgm[j]? = some u) => show cm[0 + j]? = some u from by rw [hcm]; exact cM_at j u (by rw [← hcgm]; exact h))
              have HM1D := Aside0.mk (show cm[1]? = some (.string m.1.dst) by rw [hcm]; exact cM_at 1 _ (cG_1 m.1))
              have HMW := Aside0.mk (show cm[38]? = some v by rw [hcm]; unfold cM; rw [Array.getElem?_push, if_pos (cG_size hg.tab).symm])
              have HCGM := Aside0.mk hcgm
              obtain ⟨wA, wc, ew⟩ := Kd.R_slice hway
              have HM1 := Aside0.mk (show cm.all (·.oneCell') = true by rw [hcm, ew]; unfold cM; rw [Array.all_push, cG_one]; rfl)
              have HG := Aside0.mk hg
              have HAP := Aside0.mk (hlp.apart cm)
              have HT := Aside0.mk (hlp.go (below_alloc (Below.refl _ _) (.cells cm 83)))
              have HWY := Aside0.mk (Kd.R_below hway (below_alloc (Below.refl _ _) (.cells cm 83)))
              obtain ⟨zc, hzc⟩ : ∃ zc, zc = (cG ⟨.empty, .empty, List.replicate 36 0⟩).push (.slice none 0 0) := ⟨_, rfl⟩
              have HZR8 := Aside0.mk (fun w => show (zeroValue 83).run Try.prog w = .ok (.agg zc) w from by rw [hzc]; exact zero83_run w)
              have HZS8 := Aside0.mk (show zc.size = 39 by rw [hzc]; simp [cG])
              clear hzc hg hway hlp hcm hcgm hlt
              subst ew
              refine loneTo_wp ?_
              go_wp2_with (first | ((with_reducible refine gate_alloc (t := 83) rfl ?_); refine alloc_zero rfl rfl zc HZR8.out ?_) | ((with_reducible refine gate_store (t := 83) (p := 15) rfl ?_); refine store_last rfl rfl rfl _ 83 zc cm (by rfl) (by rfl) rfl (by rw [HMS.out]; kernel_rfl) (HZS8.out.trans HMS.out.symm) HM1.out ?_))
              generalize W2.alloc (.cells cm 83) = W3 at HAP HT HWY ⊢
              generalize W2.heap.size = kb at HAP ⊢
              go_loopg [69] gs.length (fun kq v69 w' => ∃ (i : Nat) (all : List Mk), v69 = .int .i64 (i : Int) ∧ Aside0 (kq + i = gs.length) ∧ Aside0 (Lp w w' sb ab tb mb cb (2001 + l.length) gs vA vc all (p + 1)) ∧ Aside0 (Apart w' ab kb cm) ∧ Aside0 (WayR w' w.heap.size (.slice wA m.2.length wc) m.2) ∧ Aside0 (closedQ gs = (extL gs m (gs.length - i) i all).bind fun b => runQ gs d (p + 1) b))
              case atStart => exact ⟨0, all, rfl, ⟨rfl⟩, HT, HAP, HWY, HQ1⟩
              case round =>
                clear HT HAP HWY HQ1
                obtain ⟨i, all, rfl, HK, HT, HAP, HWY, HQ⟩ := hrel
                by_cases hlt : i < gs.length
                · have hdx : decide ((i : Int) < (gs.length : Int)) = true := decide_eq_true (by omega)
                  have hi0 : (i : Int) < (gs.length : Int) := by omega
                  obtain ⟨ad, e, hg, hc⟩ := gr_get (Kd.R_reads' HT.out.r).2.2 i hlt
                  have HLT := Aside0.mk hlt
                  have hib : wrap64 ((i : Int) + 1) = (i : Int) + 1 := by have := H60.out; have := HGN.out; unfold wrap64; omega
                  have HQ1 := Aside0.mk (show closedQ gs = (if m.1.dst = gs[i].src then (addM all (thenG m.1 gs[i]) (m.2 ++ [(i : Int)])).bind fun a => extL gs m (gs.length - (i + 1)) (i + 1) a else extL gs m (gs.length - (i + 1)) (i + 1) all).bind fun b => runQ gs d (p + 1) b by
                    rw [HQ.out, show gs.length - i = (gs.length - (i + 1)) + 1 by omega, extL, List.getD_eq_getElem?_getD, List.getElem?_eq_getElem hlt]
                    rfl)
                  obtain ⟨gi, hgi⟩ : ∃ g, g = gs[i] := ⟨_, rfl⟩
                  rw [← hgi] at hg hc HQ1
                  clear hgi
                  obtain ⟨cg, hcg⟩ : ∃ c, c = cG gi := ⟨_, rfl⟩
                  have HCC := Aside0.mk (fun j u (h : cg[j]? = some u) => hc j u (by rw [← hcg]; exact h))
                  have HGS := Aside0.mk (show cg.size = 38 by rw [hcg]; exact cG_size hg.tab)
                  have HG1 := Aside0.mk (show cg.all (·.oneCell') = true by rw [hcg]; exact cG_one _)
                  have HGS0 := Aside0.mk (show cg[0]? = some (.string gi.src) by rw [hcg]; exact cG_0 gi)
                  have HCG := Aside0.mk hcg
                  have HGI := Aside0.mk hg
                  clear hcg hg hc HQ
                  subst e
                  go_wp2_with (first | ((with_reducible refine gate_load (t := 81) (x := .tmp 72) rfl ?_); refine run_law (by rfl) (.agg cg) (cells_run (ty := 81) (x := .tmp 72) (ad := ad.add (i * 38)) (cs := cg) ?h1 ?h2 ?hs ?h3 Try.underlying81 ?h4) ?_; (case h1 => rfl); (case h2 => rfl); (case hs => exact fun j v hv => by rw [Addr.add_add]; exact HCC.out j v hv); (case h3 => rfl); (case h4 => rw [HGS.out]; kernel_rfl)) | ((with_reducible refine gate_alloc (t := 81) rfl ?_); refine alloc_zero rfl rfl cz HZR.out ?_) | ((with_reducible refine gate_store (t := 81) (p := 17) rfl ?_); refine store_last rfl rfl rfl _ 81 cz cg (by rfl) (by rfl) rfl (by rw [HGS.out]; kernel_rfl) (HZS.out.trans HGS.out.symm) HG1.out ?_))
                  have hbw := below_alloc (Below.refl wr.heap.size wr) (.cells cg 81)
                  have HT1 := Aside0.mk (HT.out.go hbw)
                  have HAP1 := Aside0.mk (HAP.out.go hbw)
                  have HWY1 := Aside0.mk (Kd.R_below HWY.out hbw)
                  have HH := Aside0.mk (blk_new wr (.cells cg 81))
                  clear hbw HT HAP HWY
                  generalize wr.alloc (.cells cg 81) = W1 at HT1 HAP1 HWY1 HH ⊢
                  generalize wr.heap.size = hb at HH ⊢
                  have HAP := HAP1
                  clear HAP1 hdx hi0
                  by_cases heq : m.1.dst = gi.src
                  · have e2 : (m.1.dst.toList == gi.src.toList) = true := by rw [heq]; exact beq_self_eq_true _
                    have e1 : (m.1.dst == gi.src) = true := (beq_toListBytes _ _).trans e2
                    have HQ2 := Aside0.mk (HQ1.out.trans (by rw [if_pos heq]))
                    clear heq HQ1
                    obtain ⟨ct, hct⟩ : ∃ c, c = cG (thenG m.1 gi) := ⟨_, rfl⟩
                    have HCT := Aside0.mk hct
                    have HGT := Aside0.mk (thenG_ok HG.out HGI.out)
                    have HCTS := Aside0.mk (show ct.size = 38 by rw [hct]; exact cG_size HGT.out.tab)
                    have HTH := Aside0.mk (fun W => show Calls Try.prog 46 #[.agg cgm, .agg cg] W fun e w' => e = .returned (.agg ct) ∧ Below W.heap.size W w' from by
                      rw [HCGM.out, HCG.out, hct]
                      exact then_calls m.1 gi HG.out.tab HGI.out.tab W)
                    have HCL := Aside0.mk (fun W => clip_calls wA m.2.length wc (Kd.R_reads' HWY1.out).2.1 (by
                      intro e
                      subst e
                      obtain ⟨_, inner, ho, _⟩ := HWY1.out
                      rcases ho.2 with ⟨h1, h2⟩ | ⟨g, cap, cur, h1, _⟩
                      · injection h1 with _ _ h3
                        exact ⟨h2, h3⟩
                      · injection h1 with h1
                        cases h1) W)
                    have HWM := Aside0.mk (fun (w' : World) (rb : Nat) (hb : Below W1.heap.size W1 w') (hrow : w'.heap[rb]? = some (.cells #[.int .i64 (i : Int)] 3 (0, 0))) => way_more (i := (i : Int)) (ad := ⟨rb, 0, none⟩) (Kd.R_below HWY1.out hb) (by have := HML.out; have := HDP.out; omega) (Nat.le_trans HT1.out.cs.below.size hb.size) (blk_at hrow rfl))
                    clear hct
                    cases hadd : addM all (thenG m.1 gi) (m.2 ++ [(i : Int)]) with
                    | none =>
                      have HADD := Aside0.mk hadd
                      clear hadd
                      have HR := Aside0.mk (show closedF l 4 2 = (none, 2) by
                        rw [HCF.out, HQ2.out, HADD.out]
                        rfl)
                      refine start_ (n := 22) (S := fun w' => Below W1.heap.size W1 w') (ds := [19]) #[false, false, false, false, false, false, false, false, false, false, false, false, false, false, false, false, false, false, false, false, false, false] (by kernel_rfl) rfl rfl (below_drew1 (Below.refl _ _)) (fun hHeld => ?_)
                      refine pure_ (i := 0) (N := some 74) (v := ?_) (a' := ?_) #[true, false, false, false, false, false, false, false, false, false, false, false, false, false, false, false, false, false, false, false, false, false] rfl rfl (by kernel_rfl) (fun _ _ _ h => h) (Or.inl ⟨by rfl, ?_⟩) ?_ ?_
                      rotate_left
                      · intro w'
                        go_simp
                        with_reducible rfl
                      rotate_left
                      · simp only [Act.put, List.setIfInBounds_toArray, List.set_cons_zero, List.set_cons_succ, i64_w, i32_w]
                        rfl
                      refine pure_ (i := 1) (N := some 75) (v := ?_) (a' := ?_) #[true, true, false, false, false, false, false, false, false, false, false, false, false, false, false, false, false, false, false, false, false, false] rfl rfl (by kernel_rfl) (fun _ _ _ h => h) (Or.inl ⟨by rfl, ?_⟩) ?_ ?_
                      rotate_left
                      · intro w'
                        go_simp
                        with_reducible rfl
                      rotate_left
                      · simp only [Act.put, List.setIfInBounds_toArray, List.set_cons_zero, List.set_cons_succ, i64_w, i32_w]
                        rfl
                      refine take_ (i := 2) (N := some 76) (v := ?_) (a' := ?_) #[true, true, true, false, false, false, false, false, false, false, false, false, false, false, false, false, false, false, false, false, false, false] rfl rfl (by kernel_rfl) (fun _ _ _ h => h) (Or.inl ⟨by rfl, ?_⟩) hHeld ?_ ?_
                      rotate_left
                      · rintro w' s0
                        have k0 := blk_below HAP.out.1 s0
                        have k1 := blk_at k0 HM1D.out
                        go_simp
                        with_reducible rfl
                      rotate_left
                      · simp only [Act.put, List.setIfInBounds_toArray, List.set_cons_zero, List.set_cons_succ, i64_w, i32_w]
                        rfl
                      refine pure_ (i := 3) (N := some 77) (v := ?_) (a' := ?_) #[true, true, true, true, false, false, false, false, false, false, false, false, false, false, false, false, false, false, false, false, false, false] rfl rfl (by kernel_rfl) (fun _ _ _ h => h) (Or.inl ⟨by rfl, ?_⟩) ?_ ?_
                      rotate_left
                      · intro w'
                        go_simp
                        with_reducible rfl
                      rotate_left
                      · simp only [Act.put, List.setIfInBounds_toArray, List.set_cons_zero, List.set_cons_succ, i64_w, i32_w]
                        rfl
                      refine take_ (i := 4) (N := some 78) (v := ?_) (a' := ?_) #[true, true, true, true, true, false, false, false, false, false, false, false, false, false, false, false, false, false, false, false, false, false] rfl rfl (by kernel_rfl) (fun _ _ _ h => h) (Or.inl ⟨by rfl, ?_⟩) hHeld ?_ ?_
                      rotate_left
                      · rintro w' s0
                        have k0 := blk_below HH.out s0
                        have k1 := blk_at k0 HGS0.out
                        go_simp
                        with_reducible rfl
                      rotate_left
                      · simp only [Act.put, List.setIfInBounds_toArray, List.set_cons_zero, List.set_cons_succ, i64_w, i32_w]
                        rfl
                      refine pure_ (i := 5) (N := some 79) (v := ?_) (a' := ?_) #[true, true, true, true, true, true, false, false, false, false, false, false, false, false, false, false, false, false, false, false, false, false] rfl rfl (by kernel_rfl) (fun _ _ _ h => h) (Or.inl ⟨by rfl, ?_⟩) ?_ ?_
                      rotate_left
                      · intro w'
                        go_simp
                        with_reducible rfl
                      rotate_left
                      · simp only [Act.put, List.setIfInBounds_toArray, List.set_cons_zero, List.set_cons_succ, i64_w, i32_w]
                        rfl
                      refine pure_ (i := 6) (N := some 80) (v := ?_) (a' := ?_) #[true, true, true, true, true, true, true, false, false, false, false, false, false, false, false, false, false, false, false, false, false, false] rfl rfl (by kernel_rfl) (fun _ _ _ h => h) (Or.inl ⟨by rfl, ?_⟩) ?_ ?_
                      rotate_left
                      · intro w'
                        go_simp
                        with_reducible rfl
                      rotate_left
                      · simp only [Act.put, List.setIfInBounds_toArray, List.set_cons_zero, List.set_cons_succ, i64_w, i32_w]
                        rfl
                      refine pure_ (i := 7) (N := some 81) (v := ?_) (a' := ?_) #[true, true, true, true, true, true, true, true, false, false, false, false, false, false, false, false, false, false, false, false, false, false] rfl rfl (by kernel_rfl) (fun _ _ _ h => h) (Or.inl ⟨by rfl, ?_⟩) ?_ ?_
                      rotate_left
                      · intro w'
                        go_simp
                        with_reducible rfl
                      rotate_left
                      · simp only [Act.put, List.setIfInBounds_toArray, List.set_cons_zero, List.set_cons_succ, i64_w, i32_w]
                        rfl
                      refine pure_ (i := 8) (N := some 82) (v := ?_) (a' := ?_) #[true, true, true, true, true, true, true, true, true, false, false, false, false, false, false, false, false, false, false, false, false, false] rfl rfl (by kernel_rfl) (fun _ _ _ h => h) (Or.inl ⟨by rfl, ?_⟩) ?_ ?_
                      rotate_left
                      · intro w'
                        go_simp
                        with_reducible rfl
                      rotate_left
                      · simp only [Act.put, List.setIfInBounds_toArray, List.set_cons_zero, List.set_cons_succ, i64_w, i32_w]
                        rfl
                      refine pure_ (i := 12) (N := some 86) (v := ?_) (a' := ?_) #[true, true, true, true, true, true, true, true, true, false, false, false, true, false, false, false, false, false, false, false, false, false] rfl rfl (by kernel_rfl) (fun _ _ _ h => h) (Or.inl ⟨by rfl, ?_⟩) ?_ ?_
                      rotate_left
                      · intro w'
                        go_simp
                        with_reducible rfl
                      rotate_left
                      · simp only [Act.put, List.setIfInBounds_toArray, List.set_cons_zero, List.set_cons_succ, i64_w, i32_w]
                        rfl
                      refine take_ (i := 13) (N := some 87) (v := ?_) (a' := ?_) #[true, true, true, true, true, true, true, true, true, false, false, false, true, true, false, false, false, false, false, false, false, false] rfl rfl (by kernel_rfl) (fun _ _ _ h => h) (Or.inl ⟨by rfl, ?_⟩) hHeld ?_ ?_
                      rotate_left
                      · rintro w' s0
                        have k0 := blk_below HAP.out.1 s0
                        have k1 := blk_at k0 HMW.out
                        go_simp
                        with_reducible rfl
                      rotate_left
                      · simp only [Act.put, List.setIfInBounds_toArray, List.set_cons_zero, List.set_cons_succ, i64_w, i32_w]
                        rfl
                      refine pure_ (i := 15) (N := some 89) (v := ?_) (a' := ?_) #[true, true, true, true, true, true, true, true, true, false, false, false, true, true, false, true, false, false, false, false, false, false] rfl rfl (by kernel_rfl) (fun _ _ _ h => h) (Or.inl ⟨by rfl, ?_⟩) ?_ ?_
                      rotate_left
                      · intro w'
                        go_simp
                        with_reducible rfl
                      rotate_left
                      · simp only [Act.put, List.setIfInBounds_toArray, List.set_cons_zero, List.set_cons_succ, i64_w, i32_w]
                        rfl
                      refine take_ (i := 9) (N := some 83) (v := ?_) (a' := ?_) #[true, true, true, true, true, true, true, true, true, true, false, false, true, true, false, true, false, false, false, false, false, false] rfl rfl (by kernel_rfl) (fun _ _ _ h => h) (Or.inl ⟨by rfl, ?_⟩) hHeld ?_ ?_
                      rotate_left
                      · rintro w' s0
                        refine part_run (ty := 81) (x := .tmp 82) (b := kb) (f := 0) (t := 83) (all := cm) (cs := cgm) ?h1 ?h2 (blk_below HAP.out.1 s0) HATM.out ?h3 Try.underlying81 ?h4
                        case h1 => rfl
                        case h2 => rfl
                        case h3 => rfl
                        case h4 => rw [HGMS.out]; kernel_rfl
                      rotate_left
                      · simp only [Act.put, List.setIfInBounds_toArray, List.set_cons_zero, List.set_cons_succ, i64_w, i32_w]
                        rfl
                      refine take_ (i := 10) (N := some 84) (v := ?_) (a' := ?_) #[true, true, true, true, true, true, true, true, true, true, true, false, true, true, false, true, false, false, false, false, false, false] rfl rfl (by kernel_rfl) (fun _ _ _ h => h) (Or.inl ⟨by rfl, ?_⟩) hHeld ?_ ?_
                      rotate_left
                      · rintro w' s0
                        refine load_run (ty := 81) (x := .tmp 17) (b := hb) (t := 81) (cs := cg) ?h1 ?h2 (blk_below HH.out s0) ?h3 Try.underlying81 ?h4
                        case h1 => rfl
                        case h2 => rfl
                        case h3 => rfl
                        case h4 => rw [HGS.out]; kernel_rfl
                      rotate_left
                      · simp only [Act.put, List.setIfInBounds_toArray, List.set_cons_zero, List.set_cons_succ, i64_w, i32_w]
                        rfl
                      refine join_ (σ := Nat) 5 #[true, true, true, true, true, true, true, true, true, true, true, true, true, true, true, true, true, false, false, false, false, false] (fun rb => [(85, .agg ct), (88, .slice wA m.2.length m.2.length), (90, .slice (some ⟨rb, 0, none⟩) 1 1)]) (fun rb w' => Below W1.heap.size W1 w' ∧ w'.heap[rb]? = some (.cells #[.int .i64 (i : Int)] 3 (0, 0))) ?cont ?paths
                      case paths =>
                        intro HK
                        have HJ := Aside0.mk HK
                        clear HK
                        refine two_ (i := 11) (j := 16) (Ni := some 85) (Nj := some 90) #[true, true, true, true, true, true, true, true, true, true, true, true, true, true, false, true, false, false, false, false, false, false] #[true, true, true, true, true, true, true, true, true, true, true, false, true, true, false, true, true, false, false, false, false, false] rfl rfl rfl rfl (by kernel_rfl) (by decide) (by decide) (fun K hK => ?_) (fun K hK => ?_)
                        · refine goes_ Try.func46 (by kernel_rfl) rfl #[.agg cgm, .agg cg] (by rfl) rfl rfl (by (try simp only [List.map_toArray, List.map_cons, List.map_nil]); first | done | rfl) ?_
                          refine (HTH.out W1.drew).mono ?_
                          rintro e2 w10 ⟨rfl, hb7⟩
                          refine ⟨_, rfl, ?_⟩
                          refine hK.out _ _ (below_step hHeld hb7) (fun hHeld2 => ?_)
                          clear hK hb7 hHeld
                          have hHeld := hHeld2
                          clear hHeld2
                          refine two_ (i := 14) (j := 16) (Ni := some 88) (Nj := some 90) #[true, true, true, true, true, true, true, true, true, true, true, true, true, true, true, true, false, false, false, false, false, false] #[true, true, true, true, true, true, true, true, true, true, true, true, true, true, false, true, true, false, false, false, false, false] rfl rfl rfl rfl (by kernel_rfl) (by decide) (by decide) (fun K hK => ?_) (fun K hK => ?_)
                          · refine goes_ Try.func66 (by kernel_rfl) rfl #[.slice wA m.2.length wc] (by rfl) rfl rfl (by (try simp only [List.map_toArray, List.map_cons, List.map_nil]); first | done | rfl) ?_
                            refine (HCL.out w10).mono ?_
                            rintro e2 w11 ⟨rfl, hb7⟩
                            refine ⟨_, rfl, ?_⟩
                            refine hK.out _ _ (below_step hHeld hb7) (fun hHeld2 => ?_)
                            clear hK hb7 hHeld
                            have hHeld := hHeld2
                            clear hHeld2
                            refine one_ (i := 16) (N := some 90) #[true, true, true, true, true, true, true, true, true, true, true, true, true, true, true, true, true, false, false, false, false, false] rfl rfl (by kernel_rfl) (by decide) (fun K hK => ?_)
                            refine value_ (by rfl) rfl (w1 := World.alloc w11 (.cells #[.int .i64 (i : Int)] 3)) (v := .slice (some ⟨w11.heap.size, 0, none⟩) 1 1) (by go_simp) ?_
                            refine hK.out _ _ (below_step hHeld (below_alloc (Below.refl _ _) _)) (fun hHeld2 => ?_)
                            have hrow := blk_new w11 (.cells #[.int .i64 (i : Int)] 3)
                            clear hK hHeld
                            have hHeld := hHeld2
                            clear hHeld2
                            refine norm_ ?_ (HJ.out (w11.heap.size) _ ⟨hHeld, hrow⟩)
                            simp only [putAll, Act.put, List.setIfInBounds_toArray, List.set_cons_zero, List.set_cons_succ]
                          · refine value_ (by rfl) rfl (w1 := World.alloc w10 (.cells #[.int .i64 (i : Int)] 3)) (v := .slice (some ⟨w10.heap.size, 0, none⟩) 1 1) (by go_simp) ?_
                            refine hK.out _ _ (below_step hHeld (below_alloc (Below.refl _ _) _)) (fun hHeld2 => ?_)
                            have hrow := blk_new w10 (.cells #[.int .i64 (i : Int)] 3)
                            clear hK hHeld
                            have hHeld := hHeld2
                            clear hHeld2
                            refine one_ (i := 14) (N := some 88) #[true, true, true, true, true, true, true, true, true, true, true, true, true, true, true, true, true, false, false, false, false, false] rfl rfl (by kernel_rfl) (by decide) (fun K hK => ?_)
                            refine goes_ Try.func66 (by kernel_rfl) rfl #[.slice wA m.2.length wc] (by rfl) rfl rfl (by (try simp only [List.map_toArray, List.map_cons, List.map_nil]); first | done | rfl) ?_
                            refine (HCL.out (World.alloc w10 (.cells #[.int .i64 (i : Int)] 3))).mono ?_
                            rintro e2 w12 ⟨rfl, hb7⟩
                            refine ⟨_, rfl, ?_⟩
                            refine hK.out _ _ (below_step hHeld hb7) (fun hHeld2 => ?_)
                            replace hrow := blk_below hrow hb7
                            clear hK hb7 hHeld
                            have hHeld := hHeld2
                            clear hHeld2
                            refine norm_ ?_ (HJ.out (w10.heap.size) _ ⟨hHeld, hrow⟩)
                            simp only [putAll, Act.put, List.setIfInBounds_toArray, List.set_cons_zero, List.set_cons_succ]
                        · refine value_ (by rfl) rfl (w1 := World.alloc W1.drew (.cells #[.int .i64 (i : Int)] 3)) (v := .slice (some ⟨W1.drew.heap.size, 0, none⟩) 1 1) (by go_simp) ?_
                          refine hK.out _ _ (below_step hHeld (below_alloc (Below.refl _ _) _)) (fun hHeld2 => ?_)
                          have hrow := blk_new W1.drew (.cells #[.int .i64 (i : Int)] 3)
                          clear hK hHeld
                          have hHeld := hHeld2
                          clear hHeld2
                          refine one_ (i := 11) (N := some 85) #[true, true, true, true, true, true, true, true, true, true, true, true, true, true, false, true, true, false, false, false, false, false] rfl rfl (by kernel_rfl) (by decide) (fun K hK => ?_)
                          refine goes_ Try.func46 (by kernel_rfl) rfl #[.agg cgm, .agg cg] (by rfl) rfl rfl (by (try simp only [List.map_toArray, List.map_cons, List.map_nil]); first | done | rfl) ?_
                          refine (HTH.out (World.alloc W1.drew (.cells #[.int .i64 (i : Int)] 3))).mono ?_
                          rintro e2 w11 ⟨rfl, hb7⟩
                          refine ⟨_, rfl, ?_⟩
                          refine hK.out _ _ (below_step hHeld hb7) (fun hHeld2 => ?_)
                          replace hrow := blk_below hrow hb7
                          clear hK hb7 hHeld
                          have hHeld := hHeld2
                          clear hHeld2
                          refine one_ (i := 14) (N := some 88) #[true, true, true, true, true, true, true, true, true, true, true, true, true, true, true, true, true, false, false, false, false, false] rfl rfl (by kernel_rfl) (by decide) (fun K hK => ?_)
                          refine goes_ Try.func66 (by kernel_rfl) rfl #[.slice wA m.2.length wc] (by rfl) rfl rfl (by (try simp only [List.map_toArray, List.map_cons, List.map_nil]); first | done | rfl) ?_
                          refine (HCL.out w11).mono ?_
                          rintro e2 w12 ⟨rfl, hb7⟩
                          refine ⟨_, rfl, ?_⟩
                          refine hK.out _ _ (below_step hHeld hb7) (fun hHeld2 => ?_)
                          replace hrow := blk_below hrow hb7
                          clear hK hb7 hHeld
                          have hHeld := hHeld2
                          clear hHeld2
                          refine norm_ ?_ (HJ.out (W1.drew.heap.size) _ ⟨hHeld, hrow⟩)
                          simp only [putAll, Act.put, List.setIfInBounds_toArray, List.set_cons_zero, List.set_cons_succ]
                      case cont =>
                        rintro rb w' ⟨hb, hrow⟩
                        clear hHeld
                        refine norm_ (a' := ?_) ?_ ?_
                        rotate_left
                        · simp only [putAll, Act.put, List.setIfInBounds_toArray, List.set_cons_zero, List.set_cons_succ]
                          rfl
                        obtain ⟨v2, w8, hap, hway, hb8⟩ := HWM.out w' rb hb hrow
                        have HRUN := Aside0.mk hap
                        have hHeld := below_step hb hb8
                        refine one_ (i := 17) (N := some 91) #[true, true, true, true, true, true, true, true, true, true, true, true, true, true, true, true, true, true, false, false, false, false] rfl rfl (by kernel_rfl) (by decide) (fun K hK => ?_)
                        refine value_ (by rfl) rfl (w1 := w8) (v := v2) (append_run (s := .tmp 88) (x := .tmp 90) rfl rfl (by rfl) (by rfl) HRUN.out) ?_
                        refine hK.out _ _ hHeld (fun _ => ?_)
                        clear hK K
                        refine norm_ (a' := ?_) ?_ ?_
                        rotate_left
                        · show Act.put _ (some 91) _ = _
                          simp only [Act.put, List.setIfInBounds_toArray, List.set_cons_zero, List.set_cons_succ, i64_w, i32_w]
                          rfl
                        obtain ⟨A2, c2, ev2⟩ := Kd.R_slice hway
                        obtain ⟨cm2, hcm2⟩ : ∃ c, c = ct.push v2 := ⟨_, rfl⟩
                        have HCM2 := Aside0.mk hcm2
                        clear hcm2
                        have HBM := Aside0.mk (fun W : World => show (Instr.build 83 #[(0, .agg ct), (1, v2)]).run Try.prog W = .ok (.agg cm2) W from by rw [HCM2.out]; exact build_made W ct HCTS.out v2 (by rw [ev2]; rfl))
                        refine pure_ (i := 18) (N := some 92) (v := ?_) (a' := ?_) #[true, true, true, true, true, true, true, true, true, true, true, true, true, true, true, true, true, true, true, false, false, false] rfl rfl (by kernel_rfl) (fun _ _ _ h => h) (Or.inl ⟨by rfl, ?_⟩) ?_ ?_
                        rotate_left
                        · intro w'
                          refine built_run (ty := 83) (x := .tmp 85) (y := .tmp 91) (r := .agg cm2) ?h1 ?h2
                          case h1 => rfl
                          case h2 => exact HBM.out
                        rotate_left
                        · simp only [Act.put, List.setIfInBounds_toArray, List.set_cons_zero, List.set_cons_succ, i64_w, i32_w]
                          rfl
                        have HT8 := Aside0.mk (HT1.out.go hHeld)
                        have hcall := add_calls HT8.out.cs HGT.out hway HT8.out.len HT8.out.pos (by have := HT8.out.len; omega)
                        rw [show cM (thenG m.1 gi) v2 = cm2 by rw [HCM2.out, HCT.out]; rfl] at hcall
                        have HCX := Aside0.mk (hcall.mono (R' := fun e W2 => e = .returned (.bool false) ∧ Below w.heap.size w W2) (by
                          rintro e W2 (⟨a2, h, _⟩ | ⟨_, h1, h2⟩)
                          · rw [HADD.out] at h; cases h
                          · exact ⟨h1, h2⟩))
                        clear hcall
                        refine last_ (i := 19) (N := some 93) #[true, true, true, true, true, true, true, true, true, true, true, true, true, true, true, true, true, true, true, true, false, false] rfl rfl (by kernel_rfl) (by decide) (fun K hK => ?_)
                        refine call_ 65 #[.agg cm2, .pointer (some ⟨sb, 0, none⟩), .pointer (some ⟨ab, 0, none⟩), .pointer (some ⟨tb, 0, none⟩)] (by rfl) rfl ?_ ?_
                        · exact closure_run (fn := Try.f65) (caps := #[.pointer (some ⟨sb, 0, none⟩), .pointer (some ⟨ab, 0, none⟩), .pointer (some ⟨tb, 0, none⟩)]) (v := .agg cm2) (x := .tmp 81) (y := .tmp 92) Try.func65 (by kernel_rfl) rfl rfl (by rfl) (by rfl) (by rfl)
                        refine HCX.out.mono ?_
                        rintro e w9 ⟨rfl, h9⟩
                        have HB9 := Aside0.mk h9
                        clear h9
                        refine ⟨_, rfl, ?_⟩
                        refine hK.out _ _ ?_
                        clear hK K
                        refine norm_ (a' := ?_) ?_ ?_
                        rotate_left
                        · show Act.put _ (some 93) _ = _
                          simp only [Act.put, List.setIfInBounds_toArray, List.set_cons_zero, List.set_cons_succ, i64_w, i32_w]
                          rfl
                        refine pure_ (i := 20) (N := some 94) (v := ?_) (a' := ?_) #[true, true, true, true, true, true, true, true, true, true, true, true, true, true, true, true, true, true, true, true, true, false] rfl rfl (by kernel_rfl) (fun _ _ _ h => h) (Or.inl ⟨by rfl, ?_⟩) ?_ ?_
                        rotate_left
                        · intro w'
                          go_simp
                          with_reducible rfl
                        rotate_left
                        · simp only [Act.put, List.setIfInBounds_toArray, List.set_cons_zero, List.set_cons_succ, i64_w, i32_w]
                          rfl
                        refine pure_ (i := 21) (N := some 95) (v := ?_) (a' := ?_) #[true, true, true, true, true, true, true, true, true, true, true, true, true, true, true, true, true, true, true, true, true, true] rfl rfl (by kernel_rfl) (fun _ _ _ h => h) (Or.inl ⟨by rfl, ?_⟩) ?_ ?_
                        rotate_left
                        · intro w'
                          go_simp
                          with_reducible rfl
                        rotate_left
                        · simp only [Act.put, List.setIfInBounds_toArray, List.set_cons_zero, List.set_cons_succ, i64_w, i32_w]
                          rfl
                        refine done_ (by kernel_rfl) ?_
                        clear e1 e2
                        go_wp2
                        intro todo
                        have hb := HB.out
                        subst hb
                        exact LoneTo.done ⟨.returned (.tuple #[.slice none 0 0, .int .i64 2]), _, rfl, .bad HR.out HB9.out, rfl, rfl, rfl, rfl, _, Try.func39, by simp [results, Try.f39, Frame.at]⟩
                    | some all2 =>
                      have HADD := Aside0.mk hadd
                      clear hadd
                      have HQ3 := Aside0.mk (show closedQ gs = (extL gs m (gs.length - (i + 1)) (i + 1) all2).bind fun b => runQ gs d (p + 1) b by
                        rw [HQ2.out, HADD.out]
                        rfl)
                      clear HQ2
                      refine start_ (n := 22) (S := fun w' => Below W1.heap.size W1 w') (ds := [19]) #[false, false, false, false, false, false, false, false, false, false, false, false, false, false, false, false, false, false, false, false, false, false] (by kernel_rfl) rfl rfl (below_drew1 (Below.refl _ _)) (fun hHeld => ?_)
                      refine pure_ (i := 0) (N := some 74) (v := ?_) (a' := ?_) #[true, false, false, false, false, false, false, false, false, false, false, false, false, false, false, false, false, false, false, false, false, false] rfl rfl (by kernel_rfl) (fun _ _ _ h => h) (Or.inl ⟨by rfl, ?_⟩) ?_ ?_
                      rotate_left
                      · intro w'
                        go_simp
                        with_reducible rfl
                      rotate_left
                      · simp only [Act.put, List.setIfInBounds_toArray, List.set_cons_zero, List.set_cons_succ, i64_w, i32_w]
                        rfl
                      refine pure_ (i := 1) (N := some 75) (v := ?_) (a' := ?_) #[true, true, false, false, false, false, false, false, false, false, false, false, false, false, false, false, false, false, false, false, false, false] rfl rfl (by kernel_rfl) (fun _ _ _ h => h) (Or.inl ⟨by rfl, ?_⟩) ?_ ?_
                      rotate_left
                      · intro w'
                        go_simp
                        with_reducible rfl
                      rotate_left
                      · simp only [Act.put, List.setIfInBounds_toArray, List.set_cons_zero, List.set_cons_succ, i64_w, i32_w]
                        rfl
                      refine take_ (i := 2) (N := some 76) (v := ?_) (a' := ?_) #[true, true, true, false, false, false, false, false, false, false, false, false, false, false, false, false, false, false, false, false, false, false] rfl rfl (by kernel_rfl) (fun _ _ _ h => h) (Or.inl ⟨by rfl, ?_⟩) hHeld ?_ ?_
                      rotate_left
                      · rintro w' s0
                        have k0 := blk_below HAP.out.1 s0
                        have k1 := blk_at k0 HM1D.out
                        go_simp
                        with_reducible rfl
                      rotate_left
                      · simp only [Act.put, List.setIfInBounds_toArray, List.set_cons_zero, List.set_cons_succ, i64_w, i32_w]
                        rfl
                      refine pure_ (i := 3) (N := some 77) (v := ?_) (a' := ?_) #[true, true, true, true, false, false, false, false, false, false, false, false, false, false, false, false, false, false, false, false, false, false] rfl rfl (by kernel_rfl) (fun _ _ _ h => h) (Or.inl ⟨by rfl, ?_⟩) ?_ ?_
                      rotate_left
                      · intro w'
                        go_simp
                        with_reducible rfl
                      rotate_left
                      · simp only [Act.put, List.setIfInBounds_toArray, List.set_cons_zero, List.set_cons_succ, i64_w, i32_w]
                        rfl
                      refine take_ (i := 4) (N := some 78) (v := ?_) (a' := ?_) #[true, true, true, true, true, false, false, false, false, false, false, false, false, false, false, false, false, false, false, false, false, false] rfl rfl (by kernel_rfl) (fun _ _ _ h => h) (Or.inl ⟨by rfl, ?_⟩) hHeld ?_ ?_
                      rotate_left
                      · rintro w' s0
                        have k0 := blk_below HH.out s0
                        have k1 := blk_at k0 HGS0.out
                        go_simp
                        with_reducible rfl
                      rotate_left
                      · simp only [Act.put, List.setIfInBounds_toArray, List.set_cons_zero, List.set_cons_succ, i64_w, i32_w]
                        rfl
                      refine pure_ (i := 5) (N := some 79) (v := ?_) (a' := ?_) #[true, true, true, true, true, true, false, false, false, false, false, false, false, false, false, false, false, false, false, false, false, false] rfl rfl (by kernel_rfl) (fun _ _ _ h => h) (Or.inl ⟨by rfl, ?_⟩) ?_ ?_
                      rotate_left
                      · intro w'
                        go_simp
                        with_reducible rfl
                      rotate_left
                      · simp only [Act.put, List.setIfInBounds_toArray, List.set_cons_zero, List.set_cons_succ, i64_w, i32_w]
                        rfl
                      refine pure_ (i := 6) (N := some 80) (v := ?_) (a' := ?_) #[true, true, true, true, true, true, true, false, false, false, false, false, false, false, false, false, false, false, false, false, false, false] rfl rfl (by kernel_rfl) (fun _ _ _ h => h) (Or.inl ⟨by rfl, ?_⟩) ?_ ?_
                      rotate_left
                      · intro w'
                        go_simp
                        with_reducible rfl
                      rotate_left
                      · simp only [Act.put, List.setIfInBounds_toArray, List.set_cons_zero, List.set_cons_succ, i64_w, i32_w]
                        rfl
                      refine pure_ (i := 7) (N := some 81) (v := ?_) (a' := ?_) #[true, true, true, true, true, true, true, true, false, false, false, false, false, false, false, false, false, false, false, false, false, false] rfl rfl (by kernel_rfl) (fun _ _ _ h => h) (Or.inl ⟨by rfl, ?_⟩) ?_ ?_
                      rotate_left
                      · intro w'
                        go_simp
                        with_reducible rfl
                      rotate_left
                      · simp only [Act.put, List.setIfInBounds_toArray, List.set_cons_zero, List.set_cons_succ, i64_w, i32_w]
                        rfl
                      refine pure_ (i := 8) (N := some 82) (v := ?_) (a' := ?_) #[true, true, true, true, true, true, true, true, true, false, false, false, false, false, false, false, false, false, false, false, false, false] rfl rfl (by kernel_rfl) (fun _ _ _ h => h) (Or.inl ⟨by rfl, ?_⟩) ?_ ?_
                      rotate_left
                      · intro w'
                        go_simp
                        with_reducible rfl
                      rotate_left
                      · simp only [Act.put, List.setIfInBounds_toArray, List.set_cons_zero, List.set_cons_succ, i64_w, i32_w]
                        rfl
                      refine pure_ (i := 12) (N := some 86) (v := ?_) (a' := ?_) #[true, true, true, true, true, true, true, true, true, false, false, false, true, false, false, false, false, false, false, false, false, false] rfl rfl (by kernel_rfl) (fun _ _ _ h => h) (Or.inl ⟨by rfl, ?_⟩) ?_ ?_
                      rotate_left
                      · intro w'
                        go_simp
                        with_reducible rfl
                      rotate_left
                      · simp only [Act.put, List.setIfInBounds_toArray, List.set_cons_zero, List.set_cons_succ, i64_w, i32_w]
                        rfl
                      refine take_ (i := 13) (N := some 87) (v := ?_) (a' := ?_) #[true, true, true, true, true, true, true, true, true, false, false, false, true, true, false, false, false, false, false, false, false, false] rfl rfl (by kernel_rfl) (fun _ _ _ h => h) (Or.inl ⟨by rfl, ?_⟩) hHeld ?_ ?_
                      rotate_left
                      · rintro w' s0
                        have k0 := blk_below HAP.out.1 s0
                        have k1 := blk_at k0 HMW.out
                        go_simp
                        with_reducible rfl
                      rotate_left
                      · simp only [Act.put, List.setIfInBounds_toArray, List.set_cons_zero, List.set_cons_succ, i64_w, i32_w]
                        rfl
                      refine pure_ (i := 15) (N := some 89) (v := ?_) (a' := ?_) #[true, true, true, true, true, true, true, true, true, false, false, false, true, true, false, true, false, false, false, false, false, false] rfl rfl (by kernel_rfl) (fun _ _ _ h => h) (Or.inl ⟨by rfl, ?_⟩) ?_ ?_
                      rotate_left
                      · intro w'
                        go_simp
                        with_reducible rfl
                      rotate_left
                      · simp only [Act.put, List.setIfInBounds_toArray, List.set_cons_zero, List.set_cons_succ, i64_w, i32_w]
                        rfl
                      refine take_ (i := 9) (N := some 83) (v := ?_) (a' := ?_) #[true, true, true, true, true, true, true, true, true, true, false, false, true, true, false, true, false, false, false, false, false, false] rfl rfl (by kernel_rfl) (fun _ _ _ h => h) (Or.inl ⟨by rfl, ?_⟩) hHeld ?_ ?_
                      rotate_left
                      · rintro w' s0
                        refine part_run (ty := 81) (x := .tmp 82) (b := kb) (f := 0) (t := 83) (all := cm) (cs := cgm) ?h1 ?h2 (blk_below HAP.out.1 s0) HATM.out ?h3 Try.underlying81 ?h4
                        case h1 => rfl
                        case h2 => rfl
                        case h3 => rfl
                        case h4 => rw [HGMS.out]; kernel_rfl
                      rotate_left
                      · simp only [Act.put, List.setIfInBounds_toArray, List.set_cons_zero, List.set_cons_succ, i64_w, i32_w]
                        rfl
                      refine take_ (i := 10) (N := some 84) (v := ?_) (a' := ?_) #[true, true, true, true, true, true, true, true, true, true, true, false, true, true, false, true, false, false, false, false, false, false] rfl rfl (by kernel_rfl) (fun _ _ _ h => h) (Or.inl ⟨by rfl, ?_⟩) hHeld ?_ ?_
                      rotate_left
                      · rintro w' s0
                        refine load_run (ty := 81) (x := .tmp 17) (b := hb) (t := 81) (cs := cg) ?h1 ?h2 (blk_below HH.out s0) ?h3 Try.underlying81 ?h4
                        case h1 => rfl
                        case h2 => rfl
                        case h3 => rfl
                        case h4 => rw [HGS.out]; kernel_rfl
                      rotate_left
                      · simp only [Act.put, List.setIfInBounds_toArray, List.set_cons_zero, List.set_cons_succ, i64_w, i32_w]
                        rfl
                      refine join_ (σ := Nat) 5 #[true, true, true, true, true, true, true, true, true, true, true, true, true, true, true, true, true, false, false, false, false, false] (fun rb => [(85, .agg ct), (88, .slice wA m.2.length m.2.length), (90, .slice (some ⟨rb, 0, none⟩) 1 1)]) (fun rb w' => Below W1.heap.size W1 w' ∧ w'.heap[rb]? = some (.cells #[.int .i64 (i : Int)] 3 (0, 0))) ?cont ?paths
                      case paths =>
                        intro HK
                        have HJ := Aside0.mk HK
                        clear HK
                        refine two_ (i := 11) (j := 16) (Ni := some 85) (Nj := some 90) #[true, true, true, true, true, true, true, true, true, true, true, true, true, true, false, true, false, false, false, false, false, false] #[true, true, true, true, true, true, true, true, true, true, true, false, true, true, false, true, true, false, false, false, false, false] rfl rfl rfl rfl (by kernel_rfl) (by decide) (by decide) (fun K hK => ?_) (fun K hK => ?_)
                        · refine goes_ Try.func46 (by kernel_rfl) rfl #[.agg cgm, .agg cg] (by rfl) rfl rfl (by (try simp only [List.map_toArray, List.map_cons, List.map_nil]); first | done | rfl) ?_
                          refine (HTH.out W1.drew).mono ?_
                          rintro e2 w10 ⟨rfl, hb7⟩
                          refine ⟨_, rfl, ?_⟩
                          refine hK.out _ _ (below_step hHeld hb7) (fun hHeld2 => ?_)
                          clear hK hb7 hHeld
                          have hHeld := hHeld2
                          clear hHeld2
                          refine two_ (i := 14) (j := 16) (Ni := some 88) (Nj := some 90) #[true, true, true, true, true, true, true, true, true, true, true, true, true, true, true, true, false, false, false, false, false, false] #[true, true, true, true, true, true, true, true, true, true, true, true, true, true, false, true, true, false, false, false, false, false] rfl rfl rfl rfl (by kernel_rfl) (by decide) (by decide) (fun K hK => ?_) (fun K hK => ?_)
                          · refine goes_ Try.func66 (by kernel_rfl) rfl #[.slice wA m.2.length wc] (by rfl) rfl rfl (by (try simp only [List.map_toArray, List.map_cons, List.map_nil]); first | done | rfl) ?_
                            refine (HCL.out w10).mono ?_
                            rintro e2 w11 ⟨rfl, hb7⟩
                            refine ⟨_, rfl, ?_⟩
                            refine hK.out _ _ (below_step hHeld hb7) (fun hHeld2 => ?_)
                            clear hK hb7 hHeld
                            have hHeld := hHeld2
                            clear hHeld2
                            refine one_ (i := 16) (N := some 90) #[true, true, true, true, true, true, true, true, true, true, true, true, true, true, true, true, true, false, false, false, false, false] rfl rfl (by kernel_rfl) (by decide) (fun K hK => ?_)
                            refine value_ (by rfl) rfl (w1 := World.alloc w11 (.cells #[.int .i64 (i : Int)] 3)) (v := .slice (some ⟨w11.heap.size, 0, none⟩) 1 1) (by go_simp) ?_
                            refine hK.out _ _ (below_step hHeld (below_alloc (Below.refl _ _) _)) (fun hHeld2 => ?_)
                            have hrow := blk_new w11 (.cells #[.int .i64 (i : Int)] 3)
                            clear hK hHeld
                            have hHeld := hHeld2
                            clear hHeld2
                            refine norm_ ?_ (HJ.out (w11.heap.size) _ ⟨hHeld, hrow⟩)
                            simp only [putAll, Act.put, List.setIfInBounds_toArray, List.set_cons_zero, List.set_cons_succ]
                          · refine value_ (by rfl) rfl (w1 := World.alloc w10 (.cells #[.int .i64 (i : Int)] 3)) (v := .slice (some ⟨w10.heap.size, 0, none⟩) 1 1) (by go_simp) ?_
                            refine hK.out _ _ (below_step hHeld (below_alloc (Below.refl _ _) _)) (fun hHeld2 => ?_)
                            have hrow := blk_new w10 (.cells #[.int .i64 (i : Int)] 3)
                            clear hK hHeld
                            have hHeld := hHeld2
                            clear hHeld2
                            refine one_ (i := 14) (N := some 88) #[true, true, true, true, true, true, true, true, true, true, true, true, true, true, true, true, true, false, false, false, false, false] rfl rfl (by kernel_rfl) (by decide) (fun K hK => ?_)
                            refine goes_ Try.func66 (by kernel_rfl) rfl #[.slice wA m.2.length wc] (by rfl) rfl rfl (by (try simp only [List.map_toArray, List.map_cons, List.map_nil]); first | done | rfl) ?_
                            refine (HCL.out (World.alloc w10 (.cells #[.int .i64 (i : Int)] 3))).mono ?_
                            rintro e2 w12 ⟨rfl, hb7⟩
                            refine ⟨_, rfl, ?_⟩
                            refine hK.out _ _ (below_step hHeld hb7) (fun hHeld2 => ?_)
                            replace hrow := blk_below hrow hb7
                            clear hK hb7 hHeld
                            have hHeld := hHeld2
                            clear hHeld2
                            refine norm_ ?_ (HJ.out (w10.heap.size) _ ⟨hHeld, hrow⟩)
                            simp only [putAll, Act.put, List.setIfInBounds_toArray, List.set_cons_zero, List.set_cons_succ]
                        · refine value_ (by rfl) rfl (w1 := World.alloc W1.drew (.cells #[.int .i64 (i : Int)] 3)) (v := .slice (some ⟨W1.drew.heap.size, 0, none⟩) 1 1) (by go_simp) ?_
                          refine hK.out _ _ (below_step hHeld (below_alloc (Below.refl _ _) _)) (fun hHeld2 => ?_)
                          have hrow := blk_new W1.drew (.cells #[.int .i64 (i : Int)] 3)
                          clear hK hHeld
                          have hHeld := hHeld2
                          clear hHeld2
                          refine one_ (i := 11) (N := some 85) #[true, true, true, true, true, true, true, true, true, true, true, true, true, true, false, true, true, false, false, false, false, false] rfl rfl (by kernel_rfl) (by decide) (fun K hK => ?_)
                          refine goes_ Try.func46 (by kernel_rfl) rfl #[.agg cgm, .agg cg] (by rfl) rfl rfl (by (try simp only [List.map_toArray, List.map_cons, List.map_nil]); first | done | rfl) ?_
                          refine (HTH.out (World.alloc W1.drew (.cells #[.int .i64 (i : Int)] 3))).mono ?_
                          rintro e2 w11 ⟨rfl, hb7⟩
                          refine ⟨_, rfl, ?_⟩
                          refine hK.out _ _ (below_step hHeld hb7) (fun hHeld2 => ?_)
                          replace hrow := blk_below hrow hb7
                          clear hK hb7 hHeld
                          have hHeld := hHeld2
                          clear hHeld2
                          refine one_ (i := 14) (N := some 88) #[true, true, true, true, true, true, true, true, true, true, true, true, true, true, true, true, true, false, false, false, false, false] rfl rfl (by kernel_rfl) (by decide) (fun K hK => ?_)
                          refine goes_ Try.func66 (by kernel_rfl) rfl #[.slice wA m.2.length wc] (by rfl) rfl rfl (by (try simp only [List.map_toArray, List.map_cons, List.map_nil]); first | done | rfl) ?_
                          refine (HCL.out w11).mono ?_
                          rintro e2 w12 ⟨rfl, hb7⟩
                          refine ⟨_, rfl, ?_⟩
                          refine hK.out _ _ (below_step hHeld hb7) (fun hHeld2 => ?_)
                          replace hrow := blk_below hrow hb7
                          clear hK hb7 hHeld
                          have hHeld := hHeld2
                          clear hHeld2
                          refine norm_ ?_ (HJ.out (W1.drew.heap.size) _ ⟨hHeld, hrow⟩)
                          simp only [putAll, Act.put, List.setIfInBounds_toArray, List.set_cons_zero, List.set_cons_succ]
                      case cont =>
                        rintro rb w' ⟨hb, hrow⟩
                        clear hHeld
                        refine norm_ (a' := ?_) ?_ ?_
                        rotate_left
                        · simp only [putAll, Act.put, List.setIfInBounds_toArray, List.set_cons_zero, List.set_cons_succ]
                          rfl
                        obtain ⟨v2, w8, hap, hway, hb8⟩ := HWM.out w' rb hb hrow
                        have HRUN := Aside0.mk hap
                        have hHeld := below_step hb hb8
                        refine one_ (i := 17) (N := some 91) #[true, true, true, true, true, true, true, true, true, true, true, true, true, true, true, true, true, true, false, false, false, false] rfl rfl (by kernel_rfl) (by decide) (fun K hK => ?_)
                        refine value_ (by rfl) rfl (w1 := w8) (v := v2) (append_run (s := .tmp 88) (x := .tmp 90) rfl rfl (by rfl) (by rfl) HRUN.out) ?_
                        refine hK.out _ _ hHeld (fun _ => ?_)
                        clear hK K
                        refine norm_ (a' := ?_) ?_ ?_
                        rotate_left
                        · show Act.put _ (some 91) _ = _
                          simp only [Act.put, List.setIfInBounds_toArray, List.set_cons_zero, List.set_cons_succ, i64_w, i32_w]
                          rfl
                        obtain ⟨A2, c2, ev2⟩ := Kd.R_slice hway
                        obtain ⟨cm2, hcm2⟩ : ∃ c, c = ct.push v2 := ⟨_, rfl⟩
                        have HCM2 := Aside0.mk hcm2
                        clear hcm2
                        have HBM := Aside0.mk (fun W : World => show (Instr.build 83 #[(0, .agg ct), (1, v2)]).run Try.prog W = .ok (.agg cm2) W from by rw [HCM2.out]; exact build_made W ct HCTS.out v2 (by rw [ev2]; rfl))
                        refine pure_ (i := 18) (N := some 92) (v := ?_) (a' := ?_) #[true, true, true, true, true, true, true, true, true, true, true, true, true, true, true, true, true, true, true, false, false, false] rfl rfl (by kernel_rfl) (fun _ _ _ h => h) (Or.inl ⟨by rfl, ?_⟩) ?_ ?_
                        rotate_left
                        · intro w'
                          refine built_run (ty := 83) (x := .tmp 85) (y := .tmp 91) (r := .agg cm2) ?h1 ?h2
                          case h1 => rfl
                          case h2 => exact HBM.out
                        rotate_left
                        · simp only [Act.put, List.setIfInBounds_toArray, List.set_cons_zero, List.set_cons_succ, i64_w, i32_w]
                          rfl
                        have HT8 := Aside0.mk (HT1.out.go hHeld)
                        have hcall := add_calls HT8.out.cs HGT.out hway HT8.out.len HT8.out.pos (by have := HT8.out.len; omega)
                        rw [show cM (thenG m.1 gi) v2 = cm2 by rw [HCM2.out, HCT.out]; rfl] at hcall
                        have HCX := Aside0.mk (hcall.mono (R' := fun e W2 => e = .returned (.bool true) ∧ Lp w W2 sb ab tb mb cb (2001 + l.length) gs (some ad) vc all2 (p + 1) ∧ Same w8 W2 ab) (by
                          rintro e W2 (⟨a2, h, h1, h2, h3⟩ | ⟨h, _⟩)
                          · rw [HADD.out] at h; cases h
                            exact ⟨h1, ⟨h2, graphs_same HT8.out.r h3, (addM_len HT8.out.len HADD.out).1, Nat.le_trans HT8.out.pos (addM_len HT8.out.len HADD.out).2, addM_ways (by have := HML.out; have := HT8.out.pos; simp; omega) HT8.out.ways HADD.out⟩, h3⟩
                          · rw [HADD.out] at h; cases h))
                        clear hcall
                        refine last_ (i := 19) (N := some 93) #[true, true, true, true, true, true, true, true, true, true, true, true, true, true, true, true, true, true, true, true, false, false] rfl rfl (by kernel_rfl) (by decide) (fun K hK => ?_)
                        refine call_ 65 #[.agg cm2, .pointer (some ⟨sb, 0, none⟩), .pointer (some ⟨ab, 0, none⟩), .pointer (some ⟨tb, 0, none⟩)] (by rfl) rfl ?_ ?_
                        · exact closure_run (fn := Try.f65) (caps := #[.pointer (some ⟨sb, 0, none⟩), .pointer (some ⟨ab, 0, none⟩), .pointer (some ⟨tb, 0, none⟩)]) (v := .agg cm2) (x := .tmp 81) (y := .tmp 92) Try.func65 (by kernel_rfl) rfl rfl (by rfl) (by rfl) (by rfl)
                        refine HCX.out.mono ?_
                        rintro e w9 ⟨rfl, h9, h10⟩
                        have HT9 := Aside0.mk h9
                        have HS9 := Aside0.mk h10
                        clear h9 h10
                        refine ⟨_, rfl, ?_⟩
                        refine hK.out _ _ ?_
                        clear hK K
                        refine norm_ (a' := ?_) ?_ ?_
                        rotate_left
                        · show Act.put _ (some 93) _ = _
                          simp only [Act.put, List.setIfInBounds_toArray, List.set_cons_zero, List.set_cons_succ, i64_w, i32_w]
                          rfl
                        refine pure_ (i := 20) (N := some 94) (v := ?_) (a' := ?_) #[true, true, true, true, true, true, true, true, true, true, true, true, true, true, true, true, true, true, true, true, true, false] rfl rfl (by kernel_rfl) (fun _ _ _ h => h) (Or.inl ⟨by rfl, ?_⟩) ?_ ?_
                        rotate_left
                        · intro w'
                          go_simp
                          with_reducible rfl
                        rotate_left
                        · simp only [Act.put, List.setIfInBounds_toArray, List.set_cons_zero, List.set_cons_succ, i64_w, i32_w]
                          rfl
                        refine pure_ (i := 21) (N := some 95) (v := ?_) (a' := ?_) #[true, true, true, true, true, true, true, true, true, true, true, true, true, true, true, true, true, true, true, true, true, true] rfl rfl (by kernel_rfl) (fun _ _ _ h => h) (Or.inl ⟨by rfl, ?_⟩) ?_ ?_
                        rotate_left
                        · intro w'
                          go_simp
                          with_reducible rfl
                        rotate_left
                        · simp only [Act.put, List.setIfInBounds_toArray, List.set_cons_zero, List.set_cons_succ, i64_w, i32_w]
                          rfl
                        refine done_ (by kernel_rfl) ?_
                        clear e1 e2
                        have HX8 := Aside0.mk hHeld
                        clear hHeld
                        go_wp2
                        go_roundg (gs.length - i - 1)
                        case measure => have := HK.out; omega
                        case rel => exact ⟨i + 1, all2, by go_num, ⟨by have := HK.out; have := HLT.out; omega⟩, HT9, ⟨HS9.out.apart _ _ (HAP.out.go HX8.out)⟩, ⟨way_same (Kd.R_below HWY1.out HX8.out) HS9.out⟩, HQ3⟩
                  · have e2 : (m.1.dst.toList == gi.src.toList) = false := beq_eq_false_iff_ne.mpr (fun e => heq (bytes_inj e))
                    have e1 : (m.1.dst == gi.src) = false := (beq_toListBytes _ _).trans e2
                    have HQ2 := Aside0.mk (HQ1.out.trans (by rw [if_neg heq]))
                    clear heq HQ1
                    refine start_ (n := 22) (S := fun w' => Below W1.heap.size W1 w') (ds := []) #[false, false, false, false, false, false, false, false, false, false, false, false, false, false, false, false, false, false, false, false, false, false] (by kernel_rfl) rfl rfl (below_drew1 (Below.refl _ _)) (fun hHeld => ?_)
                    refine pure_ (i := 0) (N := some 74) (v := ?_) (a' := ?_) #[true, false, false, false, false, false, false, false, false, false, false, false, false, false, false, false, false, false, false, false, false, false] rfl rfl (by kernel_rfl) (fun _ _ _ h => h) (Or.inl ⟨by rfl, ?_⟩) ?_ ?_
                    rotate_left
                    · intro w'
                      go_simp
                      with_reducible rfl
                    rotate_left
                    · simp only [Act.put, List.setIfInBounds_toArray, List.set_cons_zero, List.set_cons_succ, i64_w, i32_w]
                      rfl
                    refine pure_ (i := 1) (N := some 75) (v := ?_) (a' := ?_) #[true, true, false, false, false, false, false, false, false, false, false, false, false, false, false, false, false, false, false, false, false, false] rfl rfl (by kernel_rfl) (fun _ _ _ h => h) (Or.inl ⟨by rfl, ?_⟩) ?_ ?_
                    rotate_left
                    · intro w'
                      go_simp
                      with_reducible rfl
                    rotate_left
                    · simp only [Act.put, List.setIfInBounds_toArray, List.set_cons_zero, List.set_cons_succ, i64_w, i32_w]
                      rfl
                    refine take_ (i := 2) (N := some 76) (v := ?_) (a' := ?_) #[true, true, true, false, false, false, false, false, false, false, false, false, false, false, false, false, false, false, false, false, false, false] rfl rfl (by kernel_rfl) (fun _ _ _ h => h) (Or.inl ⟨by rfl, ?_⟩) hHeld ?_ ?_
                    rotate_left
                    · rintro w' s0
                      have k0 := blk_below HAP.out.1 s0
                      have k1 := blk_at k0 HM1D.out
                      go_simp
                      with_reducible rfl
                    rotate_left
                    · simp only [Act.put, List.setIfInBounds_toArray, List.set_cons_zero, List.set_cons_succ, i64_w, i32_w]
                      rfl
                    refine pure_ (i := 3) (N := some 77) (v := ?_) (a' := ?_) #[true, true, true, true, false, false, false, false, false, false, false, false, false, false, false, false, false, false, false, false, false, false] rfl rfl (by kernel_rfl) (fun _ _ _ h => h) (Or.inl ⟨by rfl, ?_⟩) ?_ ?_
                    rotate_left
                    · intro w'
                      go_simp
                      with_reducible rfl
                    rotate_left
                    · simp only [Act.put, List.setIfInBounds_toArray, List.set_cons_zero, List.set_cons_succ, i64_w, i32_w]
                      rfl
                    refine take_ (i := 4) (N := some 78) (v := ?_) (a' := ?_) #[true, true, true, true, true, false, false, false, false, false, false, false, false, false, false, false, false, false, false, false, false, false] rfl rfl (by kernel_rfl) (fun _ _ _ h => h) (Or.inl ⟨by rfl, ?_⟩) hHeld ?_ ?_
                    rotate_left
                    · rintro w' s0
                      have k0 := blk_below HH.out s0
                      have k1 := blk_at k0 HGS0.out
                      go_simp
                      with_reducible rfl
                    rotate_left
                    · simp only [Act.put, List.setIfInBounds_toArray, List.set_cons_zero, List.set_cons_succ, i64_w, i32_w]
                      rfl
                    refine pure_ (i := 5) (N := some 79) (v := ?_) (a' := ?_) #[true, true, true, true, true, true, false, false, false, false, false, false, false, false, false, false, false, false, false, false, false, false] rfl rfl (by kernel_rfl) (fun _ _ _ h => h) (Or.inl ⟨by rfl, ?_⟩) ?_ ?_
                    rotate_left
                    · intro w'
                      go_simp
                      with_reducible rfl
                    rotate_left
                    · simp only [Act.put, List.setIfInBounds_toArray, List.set_cons_zero, List.set_cons_succ, i64_w, i32_w]
                      rfl
                    refine pure_ (i := 6) (N := some 80) (v := ?_) (a' := ?_) #[true, true, true, true, true, true, true, false, false, false, false, false, false, false, false, false, false, false, false, false, false, false] rfl rfl (by kernel_rfl) (fun _ _ _ h => h) (Or.inl ⟨by rfl, ?_⟩) ?_ ?_
                    rotate_left
                    · intro w'
                      go_simp
                      with_reducible rfl
                    rotate_left
                    · simp only [Act.put, List.setIfInBounds_toArray, List.set_cons_zero, List.set_cons_succ, i64_w, i32_w]
                      rfl
                    refine pure_ (i := 7) (N := some 81) (v := undef) (a' := ?_) #[true, true, true, true, true, true, true, true, false, false, false, false, false, false, false, false, false, false, false, false, false, false] rfl rfl (by kernel_rfl) (fun _ _ _ h => h) (Or.inr ⟨by rfl, rfl⟩) ?_ ?_
                    rotate_left
                    · simp only [Act.put, List.setIfInBounds_toArray, List.set_cons_zero, List.set_cons_succ, i64_w, i32_w]
                      rfl
                    refine pure_ (i := 8) (N := some 82) (v := undef) (a' := ?_) #[true, true, true, true, true, true, true, true, true, false, false, false, false, false, false, false, false, false, false, false, false, false] rfl rfl (by kernel_rfl) (fun _ _ _ h => h) (Or.inr ⟨by rfl, rfl⟩) ?_ ?_
                    rotate_left
                    · simp only [Act.put, List.setIfInBounds_toArray, List.set_cons_zero, List.set_cons_succ, i64_w, i32_w]
                      rfl
                    refine pure_ (i := 9) (N := some 83) (v := undef) (a' := ?_) #[true, true, true, true, true, true, true, true, true, true, false, false, false, false, false, false, false, false, false, false, false, false] rfl rfl (by kernel_rfl) (fun _ _ _ h => h) (Or.inr ⟨by rfl, rfl⟩) ?_ ?_
                    rotate_left
                    · simp only [Act.put, List.setIfInBounds_toArray, List.set_cons_zero, List.set_cons_succ, i64_w, i32_w]
                      rfl
                    refine pure_ (i := 10) (N := some 84) (v := undef) (a' := ?_) #[true, true, true, true, true, true, true, true, true, true, true, false, false, false, false, false, false, false, false, false, false, false] rfl rfl (by kernel_rfl) (fun _ _ _ h => h) (Or.inr ⟨by rfl, rfl⟩) ?_ ?_
                    rotate_left
                    · simp only [Act.put, List.setIfInBounds_toArray, List.set_cons_zero, List.set_cons_succ, i64_w, i32_w]
                      rfl
                    refine pure_ (i := 11) (N := some 85) (v := undef) (a' := ?_) #[true, true, true, true, true, true, true, true, true, true, true, true, false, false, false, false, false, false, false, false, false, false] rfl rfl (by kernel_rfl) (fun _ _ _ h => h) (Or.inr ⟨by rfl, rfl⟩) ?_ ?_
                    rotate_left
                    · simp only [Act.put, List.setIfInBounds_toArray, List.set_cons_zero, List.set_cons_succ, i64_w, i32_w]
                      rfl
                    refine pure_ (i := 12) (N := some 86) (v := undef) (a' := ?_) #[true, true, true, true, true, true, true, true, true, true, true, true, true, false, false, false, false, false, false, false, false, false] rfl rfl (by kernel_rfl) (fun _ _ _ h => h) (Or.inr ⟨by rfl, rfl⟩) ?_ ?_
                    rotate_left
                    · simp only [Act.put, List.setIfInBounds_toArray, List.set_cons_zero, List.set_cons_succ, i64_w, i32_w]
                      rfl
                    refine pure_ (i := 13) (N := some 87) (v := undef) (a' := ?_) #[true, true, true, true, true, true, true, true, true, true, true, true, true, true, false, false, false, false, false, false, false, false] rfl rfl (by kernel_rfl) (fun _ _ _ h => h) (Or.inr ⟨by rfl, rfl⟩) ?_ ?_
                    rotate_left
                    · simp only [Act.put, List.setIfInBounds_toArray, List.set_cons_zero, List.set_cons_succ, i64_w, i32_w]
                      rfl
                    refine pure_ (i := 14) (N := some 88) (v := undef) (a' := ?_) #[true, true, true, true, true, true, true, true, true, true, true, true, true, true, true, false, false, false, false, false, false, false] rfl rfl (by kernel_rfl) (fun _ _ _ h => h) (Or.inr ⟨by rfl, rfl⟩) ?_ ?_
                    rotate_left
                    · simp only [Act.put, List.setIfInBounds_toArray, List.set_cons_zero, List.set_cons_succ, i64_w, i32_w]
                      rfl
                    refine pure_ (i := 15) (N := some 89) (v := undef) (a' := ?_) #[true, true, true, true, true, true, true, true, true, true, true, true, true, true, true, true, false, false, false, false, false, false] rfl rfl (by kernel_rfl) (fun _ _ _ h => h) (Or.inr ⟨by rfl, rfl⟩) ?_ ?_
                    rotate_left
                    · simp only [Act.put, List.setIfInBounds_toArray, List.set_cons_zero, List.set_cons_succ, i64_w, i32_w]
                      rfl
                    refine pure_ (i := 16) (N := some 90) (v := undef) (a' := ?_) #[true, true, true, true, true, true, true, true, true, true, true, true, true, true, true, true, true, false, false, false, false, false] rfl rfl (by kernel_rfl) (fun _ _ _ h => h) (Or.inr ⟨by rfl, rfl⟩) ?_ ?_
                    rotate_left
                    · simp only [Act.put, List.setIfInBounds_toArray, List.set_cons_zero, List.set_cons_succ, i64_w, i32_w]
                      rfl
                    refine pure_ (i := 17) (N := some 91) (v := undef) (a' := ?_) #[true, true, true, true, true, true, true, true, true, true, true, true, true, true, true, true, true, true, false, false, false, false] rfl rfl (by kernel_rfl) (fun _ _ _ h => h) (Or.inr ⟨by rfl, rfl⟩) ?_ ?_
                    rotate_left
                    · simp only [Act.put, List.setIfInBounds_toArray, List.set_cons_zero, List.set_cons_succ, i64_w, i32_w]
                      rfl
                    refine pure_ (i := 18) (N := some 92) (v := undef) (a' := ?_) #[true, true, true, true, true, true, true, true, true, true, true, true, true, true, true, true, true, true, true, false, false, false] rfl rfl (by kernel_rfl) (fun _ _ _ h => h) (Or.inr ⟨by rfl, rfl⟩) ?_ ?_
                    rotate_left
                    · simp only [Act.put, List.setIfInBounds_toArray, List.set_cons_zero, List.set_cons_succ, i64_w, i32_w]
                      rfl
                    refine pure_ (i := 19) (N := some 93) (v := undef) (a' := ?_) #[true, true, true, true, true, true, true, true, true, true, true, true, true, true, true, true, true, true, true, true, false, false] rfl rfl (by kernel_rfl) (fun _ _ _ h => h) (Or.inr ⟨by rfl, rfl⟩) ?_ ?_
                    rotate_left
                    · simp only [Act.put, List.setIfInBounds_toArray, List.set_cons_zero, List.set_cons_succ, i64_w, i32_w]
                      rfl
                    refine pure_ (i := 20) (N := some 94) (v := undef) (a' := ?_) #[true, true, true, true, true, true, true, true, true, true, true, true, true, true, true, true, true, true, true, true, true, false] rfl rfl (by kernel_rfl) (fun _ _ _ h => h) (Or.inr ⟨by rfl, rfl⟩) ?_ ?_
                    rotate_left
                    · simp only [Act.put, List.setIfInBounds_toArray, List.set_cons_zero, List.set_cons_succ, i64_w, i32_w]
                      rfl
                    refine pure_ (i := 21) (N := some 95) (v := ?_) (a' := ?_) #[true, true, true, true, true, true, true, true, true, true, true, true, true, true, true, true, true, true, true, true, true, true] rfl rfl (by kernel_rfl) (fun _ _ _ h => h) (Or.inl ⟨by rfl, ?_⟩) ?_ ?_
                    rotate_left
                    · intro w'
                      go_simp
                      with_reducible rfl
                    rotate_left
                    · simp only [Act.put, List.setIfInBounds_toArray, List.set_cons_zero, List.set_cons_succ, i64_w, i32_w]
                      rfl
                    refine done_ (by kernel_rfl) ?_
                    clear e1 e2
                    have HX := Aside0.mk hHeld
                    clear hHeld
                    go_wp2
                    go_roundg (gs.length - i - 1)
                    case measure => have := HK.out; omega
                    case rel => exact ⟨i + 1, all, by go_num, ⟨by have := HK.out; have := HLT.out; omega⟩, ⟨HT1.out.go HX.out⟩, ⟨HAP.out.go HX.out⟩, ⟨Kd.R_below HWY1.out HX.out⟩, HQ2⟩
                · have hdx : decide ((i : Int) < (gs.length : Int)) = false := decide_eq_false (by omega)
                  have HQ2 := Aside0.mk (show closedQ gs = runQ gs d (p + 1) all by
                    rw [HQ.out, show gs.length - i = 0 by omega, extL]
                    rfl)
                  clear HQ HK
                  go_wp2
                  clear hdx hlt
                  change LoneTo _ _ _ _
                  refine loneTo_inBlock (loneTo_inLoop ?_)
                  exact HIH.out _ _ ⟨p + 1, all, by have := HDP.out; omega, HQ2.out, HT.out, ⟨rfl, rfl, rfl, rfl, rfl, rfl, rfl, rfl⟩⟩
            · obtain ⟨s, r, hcb⟩ := HT.out.empty hlt
              obtain ⟨va, ha, HA⟩ := HT.out.cs.aB
              have HR := Aside0.mk (show closedF l 4 2 = (some all, 0) by
                rw [HCF.out, HQ.out, runQ, if_neg hlt])
              have HAR := Aside0.mk HA
              have HBB := Aside0.mk HT.out.cs.below
              refine loneTo_seq (loneTo_region' (l := [0, 1, 2]) rfl ?_)
              refine loneTo_default (x := .tmp 61) (e := 83) (z := z83) rfl rfl rfl hk (by rfl) (zero83_run W) hcb ?_
              refine loneTo_value (v := .int .i64 (-1)) (w' := W) rfl rfl hk (by go_simp) ?_
              refine loneTo_value (v := .bool false) (w' := W) rfl rfl hk (by go_simp) ?_
              refine loneTo_region_end ?_
              have a0 := blk_at ha (k := 0) rfl
              clear ha hcb hlt HT HQ
              refine loneTo_wp ?_
              go_wp2
              intro todo
              have hb := HB.out
              subst hb
              exact LoneTo.done ⟨.returned (.tuple #[va, .int .i64 0]), _, rfl, .good HR.out HBB.out HAR.out, rfl, rfl, rfl, rfl, _, Try.func39, by simp [results, Try.f39, Frame.at]⟩
end Go.Proofs.Ytiepinfcndefhaa.S
