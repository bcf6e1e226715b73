/- A graph as a key, and two of them held against each other. No condition. -/
import Derived.Test.YtiepinfcndefhaaSa
import Derived.DeepKeys
import Derived.DeepKeys4
import Derived.Maps.Keyed
namespace Go.Proofs.Ytiepinfcndefhaa.S
open Go.RowKit Go.Proofs.YtiepinfcndefhaaW.PrintWords Go.Proofs.YtiepinfcndefhaaW.PrintLast Go.Proofs.YtiepinfcndefhaaW.PrintMore
set_option linter.unusedVariables false
set_option linter.unusedSimpArgs false

theorem laidOut81 : laidOutB Try.prog = true := by kernel_rfl
/-- A graph that may be a key. -/
structure GOk (g : Gr) : Prop where
  tab : GTab g
  s1 : g.src.size ≤ maxLen
  s2 : g.dst.size ≤ maxLen
def litsG (g : Gr) : List Lit := [.string g.src.data.toList, .string g.dst.data.toList] ++ g.tab.map (Lit.int .u8)
theorem list36 {l : List Int} (h : l.length = 36) : l = [l.getD 0 0, l.getD 1 0, l.getD 2 0, l.getD 3 0, l.getD 4 0, l.getD 5 0, l.getD 6 0, l.getD 7 0, l.getD 8 0, l.getD 9 0, l.getD 10 0, l.getD 11 0, l.getD 12 0, l.getD 13 0, l.getD 14 0, l.getD 15 0, l.getD 16 0, l.getD 17 0, l.getD 18 0, l.getD 19 0, l.getD 20 0, l.getD 21 0, l.getD 22 0, l.getD 23 0, l.getD 24 0, l.getD 25 0, l.getD 26 0, l.getD 27 0, l.getD 28 0, l.getD 29 0, l.getD 30 0, l.getD 31 0, l.getD 32 0, l.getD 33 0, l.getD 34 0, l.getD 35 0] := by
  apply List.ext_getElem (by rw [h]; rfl)
  intro i h1 h2
  have e : ∀ (m : Nat) (hm : m < 36), ([l.getD 0 0, l.getD 1 0, l.getD 2 0, l.getD 3 0, l.getD 4 0, l.getD 5 0, l.getD 6 0, l.getD 7 0, l.getD 8 0, l.getD 9 0, l.getD 10 0, l.getD 11 0, l.getD 12 0, l.getD 13 0, l.getD 14 0, l.getD 15 0, l.getD 16 0, l.getD 17 0, l.getD 18 0, l.getD 19 0, l.getD 20 0, l.getD 21 0, l.getD 22 0, l.getD 23 0, l.getD 24 0, l.getD 25 0, l.getD 26 0, l.getD 27 0, l.getD 28 0, l.getD 29 0, l.getD 30 0, l.getD 31 0, l.getD 32 0, l.getD 33 0, l.getD 34 0, l.getD 35 0] : List Int)[m]'hm = l.getD m 0 := by
    intro m hm
    have : m = 0 ∨ m = 1 ∨ m = 2 ∨ m = 3 ∨ m = 4 ∨ m = 5 ∨ m = 6 ∨ m = 7 ∨ m = 8 ∨ m = 9 ∨ m = 10 ∨ m = 11 ∨ m = 12 ∨ m = 13 ∨ m = 14 ∨ m = 15 ∨ m = 16 ∨ m = 17 ∨ m = 18 ∨ m = 19 ∨ m = 20 ∨ m = 21 ∨ m = 22 ∨ m = 23 ∨ m = 24 ∨ m = 25 ∨ m = 26 ∨ m = 27 ∨ m = 28 ∨ m = 29 ∨ m = 30 ∨ m = 31 ∨ m = 32 ∨ m = 33 ∨ m = 34 ∨ m = 35 := by omega
    rcases this with rfl | rfl | rfl | rfl | rfl | rfl | rfl | rfl | rfl | rfl | rfl | rfl | rfl | rfl | rfl | rfl | rfl | rfl | rfl | rfl | rfl | rfl | rfl | rfl | rfl | rfl | rfl | rfl | rfl | rfl | rfl | rfl | rfl | rfl | rfl | rfl <;> rfl
  rw [e i (by omega), List.getD_eq_getElem?_getD, List.getElem?_eq_getElem h1]
  rfl
theorem kl_row (D : Nat) (a b c d e f : Int) (h : ∀ x, x = a ∨ x = b ∨ x = c ∨ x = d ∨ x = e ∨ x = f → 0 ≤ x ∧ x ≤ 2) : Try.prog.keyLits (D + 2) 78 [.int .u8 a, .int .u8 b, .int .u8 c, .int .u8 d, .int .u8 e, .int .u8 f] = some [.int .u8 a, .int .u8 b, .int .u8 c, .int .u8 d, .int .u8 e, .int .u8 f] := by
  have wf : ∀ x : Int, 0 ≤ x ∧ x ≤ 2 → (Lit.int .u8 x).wf = true := fun x hx => by
    have : x = 0 ∨ x = 1 ∨ x = 2 := by omega
    rcases this with rfl | rfl | rfl <;> decide
  have one : ∀ x : Int, (Lit.int .u8 x).wf = true → Try.prog.keyLits (D + 1) 5 [.int .u8 x] = some [.int .u8 x] := fun x hx => by
    simp only [Program.keyLits, Try.underlying5]
    rw [if_pos ⟨trivial, hx⟩]
  have c1 : Try.prog.cellsOf 78 = 6 := by kernel_rfl
  have c2 : Try.prog.cellsOf 5 = 1 := by kernel_rfl
  have wa := one a (wf a (h a (by simp)))
  have wb := one b (wf b (h b (by simp)))
  have wc := one c (wf c (h c (by simp)))
  have wd := one d (wf d (h d (by simp)))
  have we := one e (wf e (h e (by simp)))
  have wg := one f (wf f (h f (by simp)))
  unfold Program.keyLits
  rw [Try.underlying78]
  simp only [c1, c2, List.length_cons, List.length_nil, List.range, List.range.loop, List.mapM_cons, List.mapM_nil, Nat.zero_mul, Nat.one_mul, Nat.reduceMul, List.drop_succ_cons, List.drop_zero, List.take_succ_cons, List.take_zero, wa, wb, wc, wd, we, wg, if_true, Nat.reduceAdd]
  rfl
theorem kl_tab (D : Nat) (f : Nat → Int) (h : ∀ n, 0 ≤ f n ∧ f n ≤ 2) : Try.prog.keyLits (D + 3) 79 [.int .u8 (f 0), .int .u8 (f 1), .int .u8 (f 2), .int .u8 (f 3), .int .u8 (f 4), .int .u8 (f 5), .int .u8 (f 6), .int .u8 (f 7), .int .u8 (f 8), .int .u8 (f 9), .int .u8 (f 10), .int .u8 (f 11), .int .u8 (f 12), .int .u8 (f 13), .int .u8 (f 14), .int .u8 (f 15), .int .u8 (f 16), .int .u8 (f 17), .int .u8 (f 18), .int .u8 (f 19), .int .u8 (f 20), .int .u8 (f 21), .int .u8 (f 22), .int .u8 (f 23), .int .u8 (f 24), .int .u8 (f 25), .int .u8 (f 26), .int .u8 (f 27), .int .u8 (f 28), .int .u8 (f 29), .int .u8 (f 30), .int .u8 (f 31), .int .u8 (f 32), .int .u8 (f 33), .int .u8 (f 34), .int .u8 (f 35)] = some [.int .u8 (f 0), .int .u8 (f 1), .int .u8 (f 2), .int .u8 (f 3), .int .u8 (f 4), .int .u8 (f 5), .int .u8 (f 6), .int .u8 (f 7), .int .u8 (f 8), .int .u8 (f 9), .int .u8 (f 10), .int .u8 (f 11), .int .u8 (f 12), .int .u8 (f 13), .int .u8 (f 14), .int .u8 (f 15), .int .u8 (f 16), .int .u8 (f 17), .int .u8 (f 18), .int .u8 (f 19), .int .u8 (f 20), .int .u8 (f 21), .int .u8 (f 22), .int .u8 (f 23), .int .u8 (f 24), .int .u8 (f 25), .int .u8 (f 26), .int .u8 (f 27), .int .u8 (f 28), .int .u8 (f 29), .int .u8 (f 30), .int .u8 (f 31), .int .u8 (f 32), .int .u8 (f 33), .int .u8 (f 34), .int .u8 (f 35)] := by
  have c1 : Try.prog.cellsOf 79 = 36 := by kernel_rfl
  have c2 : Try.prog.cellsOf 78 = 6 := by kernel_rfl
  have r0 := kl_row D (f 0) (f 1) (f 2) (f 3) (f 4) (f 5) (fun x hx => by rcases hx with rfl | rfl | rfl | rfl | rfl | rfl <;> exact h _)
  have r1 := kl_row D (f 6) (f 7) (f 8) (f 9) (f 10) (f 11) (fun x hx => by rcases hx with rfl | rfl | rfl | rfl | rfl | rfl <;> exact h _)
  have r2 := kl_row D (f 12) (f 13) (f 14) (f 15) (f 16) (f 17) (fun x hx => by rcases hx with rfl | rfl | rfl | rfl | rfl | rfl <;> exact h _)
  have r3 := kl_row D (f 18) (f 19) (f 20) (f 21) (f 22) (f 23) (fun x hx => by rcases hx with rfl | rfl | rfl | rfl | rfl | rfl <;> exact h _)
  have r4 := kl_row D (f 24) (f 25) (f 26) (f 27) (f 28) (f 29) (fun x hx => by rcases hx with rfl | rfl | rfl | rfl | rfl | rfl <;> exact h _)
  have r5 := kl_row D (f 30) (f 31) (f 32) (f 33) (f 34) (f 35) (fun x hx => by rcases hx with rfl | rfl | rfl | rfl | rfl | rfl <;> exact h _)
  unfold Program.keyLits
  rw [Try.underlying79]
  simp only [c1, c2, List.length_cons, List.length_nil, List.range, List.range.loop, List.mapM_cons, List.mapM_nil, Nat.zero_mul, Nat.one_mul, Nat.reduceMul, List.drop_succ_cons, List.drop_zero, List.take_succ_cons, List.take_zero, r0, r1, r2, r3, r4, r5, if_true, Nat.reduceAdd]
  rfl
theorem kl_g (D : Nat) {g : Gr} (hg : GOk g) : Try.prog.keyLits (D + 4) 81 (cG g).toList = some (litsG g) := by
  have hl := list36 hg.tab.len
  have hf : ∀ n, 0 ≤ g.tab.getD n 0 ∧ g.tab.getD n 0 ≤ 2 := fun n => by
    have h1 := hg.tab.lo 0 n
    have h2 := hg.tab.hi 0 n
    unfold tat at h1 h2
    rw [Nat.mul_zero, Nat.zero_add] at h1 h2
    exact ⟨h1, h2⟩
  have kt := kl_tab D (fun n => g.tab.getD n 0) hf
  have c0 : Try.prog.cellsOf 81 = 38 := by kernel_rfl
  have c1 : Try.prog.cellsOf 79 = 36 := by kernel_rfl
  have c2 : Try.prog.cellsOf 9 = 1 := by kernel_rfl
  have st : ∀ s : ByteArray, s.size ≤ maxLen → Try.prog.keyLits (D + 3) 9 [.string s] = some [.string s.data.toList] := fun s hs => by
    unfold Program.keyLits
    rw [Try.underlying9]
    simp only
    rw [if_pos hs]
  have s1 := st g.src hg.s1
  have s2 := st g.dst hg.s2
  generalize g.tab.getD = t at hl kt
  unfold cG litsG
  rw [hl]
  unfold Program.keyLits
  rw [Try.underlying81]
  simp only [c0, c1, c2, List.map_cons, List.map_nil, List.cons_append, List.nil_append, List.length_cons, List.length_nil, List.mapM_cons, List.mapM_nil, List.drop_succ_cons, List.drop_zero, List.take_succ_cons, List.take_zero, s1, s2, kt]
  rw [if_pos ⟨trivial, by simp⟩]
  rfl
theorem litsG_inj {g h : Gr} (e : litsG g = litsG h) : g = h := by
  unfold litsG at e
  simp only [List.cons_append, List.nil_append, List.cons.injEq, Lit.string.injEq] at e
  obtain ⟨e1, e2, e3⟩ := e
  have i1 : ∀ (a b : ByteArray), a.data.toList = b.data.toList → a = b := fun a b h => by
    cases a; cases b
    simp at h
    rw [h]
  have i3 : g.tab = h.tab := by
    have : ∀ (a b : List Int), a.map (Lit.int .u8) = b.map (Lit.int .u8) → a = b := by
      intro a
      induction a with
      | nil => intro b hb; cases b with
        | nil => rfl
        | cons y b => simp at hb
      | cons x a ih => intro b hb; cases b with
        | nil => simp at hb
        | cons y b =>
          simp only [List.map_cons, List.cons.injEq, Lit.int.injEq, true_and] at hb
          rw [hb.1, ih b hb.2]
    exact this _ _ e3
  cases g; cases h
  simp only [Gr.mk.injEq]
  exact ⟨i1 _ _ e1, i1 _ _ e2, i3⟩
theorem formed_g {g : Gr} (hg : GOk g) : (vG g).formed Try.prog 81 = true := by
  have := cG_size hg.tab
  unfold Value.formed vG
  rw [Try.underlying81]
  have c0 : Try.prog.cellsOf 81 = 38 := by kernel_rfl
  simp [this, c0]
set_option maxRecDepth 100000 in
theorem equal_g (d : Nat) {g h : Gr} (hg : GOk g) (hh : GOk h) (w : World) : (Op.equalIn (d + 5) 81 (vG g) (vG h)).run Try.prog w = .ok (decide (g = h)) w := by
  have hk : Try.prog.keyTypeAt 5 81 = true := by kernel_rfl
  obtain ⟨r, hr, hiff⟩ := run_equalIn_deep d 5 81 hk w 5 5 (vG g) (vG h) (litsG g) (litsG h) (formed_g hg) (formed_g hh) (kl_g 1 hg) (kl_g 1 hh)
  have e : r = decide (g = h) := by
    rw [Bool.eq_iff_iff, hiff, decide_eq_true_eq]
    exact ⟨litsG_inj, fun e => by rw [e]⟩
  rw [← e]
  exact hr
theorem eql_g {g h : Gr} (hg : GOk g) (hh : GOk h) (w : World) : (binOp .eql 81 (vG g) (vG h)).run Try.prog w = .ok (.bool (decide (g = h))) w := by
  unfold vG
  rw [run_eql_struct]
  have := equal_g 9995 hg hh w
  unfold vG at this
  rw [this]
  rfl
/-- What a graph reads as, as a key. -/
def keyG (g : Gr) : Lit := .string (keyBytes (litsG g))
theorem key_g {g : Gr} (hg : GOk g) : keyOf Try.prog 81 (vG g) = some (keyG g) := by
  have h1 : Try.prog.keyType 81 = true := by kernel_rfl
  have h4 : Nat.ble 3 Try.prog.types.size = true := by kernel_rfl
  have h5 := Nat.le_of_ble_eq_true h4
  have h2 : Try.prog.types.size + 1 = (Try.prog.types.size - 3) + 4 := by omega
  unfold keyOf
  rw [Try.underlying81]
  simp only [h1, formed_g hg, Bool.and_true, if_true]
  have := kl_g (Try.prog.types.size - 3) hg
  rw [h2]
  show Option.map _ (Try.prog.keyLits _ 81 (cG g).toList) = _
  rw [this]
  rfl
theorem keyed81 : Maps.Keyed Try.prog 81 := Maps.Keyed.of_law (deep_law_laid (m := 5) laidOut81 (by omega) (Nat.le_of_ble_eq_true (by kernel_rfl)) (by kernel_rfl) (by rw [Try.underlying81]))
end Go.Proofs.Ytiepinfcndefhaa.S
