import Derived.Test.YtlidibbdacohaaaR2
import Derived.DeepKeys
import Derived.DeepKeys4
import Derived.Maps.Keyed
import Derived.Maps.OwnSet
import Derived.Maps.Views
import Derived.Maps.RangeWalk
import Derived.WideKeyEntry
import Derived.Deep.WholeRow
import Derived.Test.YtlidibbdacohaaaPRingEqualsxf101
/- Exponents as the key of a map, and the map of a polynomial: its laws. Whole arrays in memory; a monomial added to a polynomial's map. The program's add: a monomial added to a polynomial's map. Plain mathematics: what may be added; sums over what is done. The program's plus: the sum of two polynomials' maps. The program's times: the product of two coefficients. Plain mathematics: the product, as it grows. The program's product: the product of two polynomials' maps. No condition. -/
namespace Go.Proofs.Ytlidibbdacohaaa.R
section
open Go.RowKit Go.Maps Go.ChangeShapes Go.WideShapes Go.MapKept Go.ChangeMaps Go.WideElems Go.Proofs.Ytlidibbdacohaaa.PRingEquals Go.Proofs.YtlidibbdacohaaaW.PrintWords Go.Proofs.YtlidibbdacohaaaW.PrintLast Go.Proofs.YtlidibbdacohaaaW.PrintMore
set_option linter.unusedVariables false
set_option linter.unusedSimpArgs false

theorem laidOutR : laidOutB Try.prog = true := by kernel_rfl
/-- The cells of exponents. -/
def cE (e : Ex) : Array Value := (e.map (Value.int .i64)).toArray
def vE (e : Ex) : Value := .agg (cE e)
theorem cE_size (e : Ex) : (cE e).size = e.length := by simp [cE]
theorem ex_wf {n : Int} (h : 0 ≤ n ∧ n ≤ 60) : (Lit.int .i64 n).wf = true := by
  have h1 := h.1
  have h2 := h.2
  simp only [Lit.wf, decide_eq_true_eq, Bool.and_eq_true]
  first | omega | (constructor <;> omega) | (simp only [IntKind.min, IntKind.max]; omega) | (simp [IntKind.min, IntKind.max, IntKind.signed, IntKind.bits]; omega)
theorem kl_e (D : Nat) {e : Ex} (he : ExOk e) : Try.prog.keyLits (D + 2) 81 (cE e).toList = some (e.map (Lit.int .i64)) := by
  have one : ∀ x : Int, (Lit.int .i64 x).wf = true → Try.prog.keyLits (D + 1) 3 [.int .i64 x] = some [.int .i64 x] := fun x hx => by
    simp only [Program.keyLits, Try.underlying3]
    rw [if_pos ⟨trivial, hx⟩]
  have c1 : Try.prog.cellsOf 81 = 8 := by kernel_rfl
  have c2 : Try.prog.cellsOf 3 = 1 := by kernel_rfl
  obtain ⟨hl, hm⟩ := he
  match e, hl, hm with
  | [x0, x1, x2, x3, x4, x5, x6, x7], _, hm =>
    have w0 := one x0 (ex_wf (hm x0 (by simp)))
    have w1 := one x1 (ex_wf (hm x1 (by simp)))
    have w2 := one x2 (ex_wf (hm x2 (by simp)))
    have w3 := one x3 (ex_wf (hm x3 (by simp)))
    have w4 := one x4 (ex_wf (hm x4 (by simp)))
    have w5 := one x5 (ex_wf (hm x5 (by simp)))
    have w6 := one x6 (ex_wf (hm x6 (by simp)))
    have w7 := one x7 (ex_wf (hm x7 (by simp)))
    unfold cE Program.keyLits
    rw [Try.underlying81]
    simp only [c1, c2, List.map_cons, List.map_nil, List.length_cons, List.length_nil, List.range, List.range.loop, List.mapM_cons, List.mapM_nil, Nat.zero_mul, Nat.one_mul, Nat.reduceMul, List.drop_succ_cons, List.drop_zero, List.take_succ_cons, List.take_zero, w0, w1, w2, w3, w4, w5, w6, w7, if_true, Nat.reduceAdd]
    rfl
theorem litsE_inj : ∀ {a b : Ex}, a.map (Lit.int .i64) = b.map (Lit.int .i64) → a = b
  | [], [], _ => rfl
  | [], _ :: _, h => by simp at h
  | _ :: _, [], h => by simp at h
  | x :: a, y :: b, h => by
    simp only [List.map_cons, List.cons.injEq, Lit.int.injEq, true_and] at h
    rw [h.1, litsE_inj h.2]
theorem formed_e {e : Ex} (he : ExOk e) : (vE e).formed Try.prog 81 = true := by
  have h1 := cE_size e
  have h2 := he.1
  unfold Value.formed vE
  rw [Try.underlying81]
  have c0 : Try.prog.cellsOf 81 = 8 := by kernel_rfl
  simp [h1, h2, c0]
/-- What exponents read as, as a key. -/
def keyE (e : Ex) : Lit := .string (keyBytes (e.map (Lit.int .i64)))
theorem key_e {e : Ex} (he : ExOk e) : keyOf Try.prog 81 (vE e) = some (keyE e) := by
  have h1 : Try.prog.keyType 81 = true := by kernel_rfl
  have h4 : Nat.ble 1 Try.prog.types.size = true := by kernel_rfl
  have h5 := Nat.le_of_ble_eq_true h4
  have h2 : Try.prog.types.size + 1 = (Try.prog.types.size - 1) + 2 := by omega
  unfold keyOf
  rw [Try.underlying81]
  simp only [h1, formed_e he, Bool.and_true, if_true]
  have := kl_e (Try.prog.types.size - 1) he
  rw [h2]
  show Option.map _ (Try.prog.keyLits _ 81 (cE e).toList) = _
  rw [this]
  rfl
theorem law81 : WideMaps.KeyLaw Try.prog 81 := deep_law_laid (m := 5) laidOutR (by omega) (Nat.le_of_ble_eq_true (by kernel_rfl)) (by kernel_rfl) (by rw [Try.underlying81])
theorem keyed81 : Maps.Keyed Try.prog 81 := Maps.Keyed.of_law law81
theorem vE_inj {a b : Ex} (ha : ExOk a) (hb : ExOk b) (e : vE a = vE b) : a = b := by
  have h1 := kl_e 0 ha
  have h2 := kl_e 0 hb
  have e2 : cE a = cE b := Value.agg.inj e
  rw [e2, h2] at h1
  exact (litsE_inj (Option.some.inj h1)).symm
theorem keyE_inj {a b : Ex} (ha : ExOk a) (hb : ExOk b) (e : keyE a = keyE b) : a = b := vE_inj ha hb (keyed81.inj (key_e ha) (e ▸ key_e hb))
theorem keyE_lit {e : Ex} (he : ExOk e) : WideAt.IsKeyLit (keyE e) := keyed81.key (key_e he)
/-- A datum that holds just the terms of a normal form. -/
structure Reads (D : DataW Unit) (l : Po) : Prop where
  nf : Nf l
  ex : ∀ t ∈ l, ExOk t.1
  tidy : Maps.Tidy D
  len : Maps.size D = l.length
  hit : ∀ t ∈ l, ∀ z, D.atKey (keyE t.1) z = .lit (.int .i64 t.2)
  only : ∀ kl, Maps.has D kl = true → ∃ t ∈ l, kl = keyE t.1
theorem Reads.has {D : DataW Unit} {l : Po} (h : Reads D l) {t : Ex × Int} (ht : t ∈ l) : Maps.has D (keyE t.1) = true := has_true_of_atKey (h.hit t ht)
theorem Reads.miss {D : DataW Unit} {l : Po} (h : Reads D l) {e : Ex} (he : ExOk e) (hn : ∀ t ∈ l, t.1 ≠ e) : Maps.has D (keyE e) = false := by
  cases hh : Maps.has D (keyE e) with
  | false => rfl
  | true =>
    obtain ⟨t, ht, hk⟩ := h.only _ hh
    exact absurd (keyE_inj he (h.ex t ht) hk).symm (hn t ht)
theorem Nf.co_none {l : Po} (h : Nf l) {e : Ex} (h0 : co l e = 0) : ∀ t ∈ l, t.1 ≠ e := fun t ht q => by
  have h1 := h.co_mem ht
  have h2 := h.pos t ht
  rw [q] at h1
  omega
theorem Nf.co_some {l : Po} (h : Nf l) {e : Ex} (h0 : co l e ≠ 0) : (e, co l e) ∈ l := by
  rw [h.mem_iff]
  have := co_nonneg h.pos e
  exact ⟨rfl, by omega⟩
theorem Reads.at {D : DataW Unit} {l : Po} (h : Reads D l) {e : Ex} (he : ExOk e) : D.atKey (keyE e) (.lit (.int .i64 0)) = .lit (.int .i64 (co l e)) := by
  by_cases h0 : co l e = 0
  · rw [h0, Maps.atKey_of_not_has (h.miss he (h.nf.co_none h0))]
  · exact h.hit _ (h.nf.co_some h0) _
theorem ins_mem_iff {l : Po} (h : Nf l) {t : Ex × Int} (ht : t.1.length = 8) (hp : 0 < t.2) (x : Ex × Int) : x ∈ ins l t ↔ (x.1 = t.1 ∧ x.2 = co l t.1 + t.2) ∨ (x.1 ≠ t.1 ∧ x ∈ l) := by
  have hn := ins_nf ht hp h
  have e1 := hn.mem_iff x.1 x.2
  have e2 := h.mem_iff x.1 x.2
  have e3 := ins_co ht x.1 h
  have h0 := co_nonneg h.pos t.1
  have hx : (x.1, x.2) = x := rfl
  rw [hx] at e1 e2
  rw [e1, e3]
  by_cases q : t.1 = x.1
  · rw [if_pos q, ← q]
    constructor
    · rintro ⟨a, b⟩
      exact .inl ⟨rfl, a.symm⟩
    · rintro (⟨_, a⟩ | ⟨a, _⟩)
      · exact ⟨a.symm, by omega⟩
      · exact absurd rfl a
  · rw [if_neg q, Int.add_zero, ← e2]
    exact ⟨fun a => .inr ⟨fun e => q e.symm, a⟩, fun a => a.elim (fun a => absurd a.1.symm q) (·.2)⟩
theorem Reads.put {D : DataW Unit} {l : Po} (h : Reads D l) {e : Ex} (he : ExOk e) {c : Int} (hc : 0 < c) : Reads (D.put (keyE e) (.lit (.int .i64 (co l e + c)))) (ins l (e, c)) := by
  have hi := ins_mem_iff h.nf (t := (e, c)) he.1 hc
  have hex : ∀ t ∈ ins l (e, c), ExOk t.1 := fun t ht => by
    rcases (hi t).1 ht with ⟨q, _⟩ | ⟨_, q⟩
    · rw [q]; exact he
    · exact h.ex t q
  refine ⟨ins_nf (t := (e, c)) he.1 hc h.nf, hex, h.tidy.put (keyE_lit he) _, ?_, fun t ht z => ?_, fun kl hk => ?_⟩
  · rw [size_put h.tidy, ins_len (t := (e, c)) he.1 h.nf, h.len]
    by_cases h0 : co l e = 0
    · rw [h.miss he (h.nf.co_none h0), if_pos h0]
      rfl
    · rw [h.has (h.nf.co_some h0), if_neg h0]
      rfl
  · rcases (hi t).1 ht with ⟨q1, q2⟩ | ⟨q1, q2⟩
    · rw [q1, q2, Maps.atKey_put_same h.tidy.isMap (keyE_lit he)]
    · rw [Maps.atKey_put_other (fun ek => q1 (keyE_inj (h.ex t q2) he ek)), h.hit t q2]
  · by_cases hkl : kl = keyE e
    · exact ⟨(e, co l e + c), (hi _).2 (.inl ⟨rfl, rfl⟩), hkl⟩
    · rw [Maps.has_put_other hkl] at hk
      obtain ⟨t, ht, q⟩ := h.only kl hk
      exact ⟨t, (hi t).2 (.inr ⟨fun q2 => hkl (by rw [q, q2]), ht⟩), q⟩
theorem Reads.nil : Reads (.map []) [] := ⟨Nf.nil, (fun _ h => by cases h), tidy_empty, rfl, (fun _ h => by cases h), fun kl h => by cases h⟩
/-- The map of block mb holds just the terms of a normal form. -/
def PM (W : World) (mb : Nat) (l : Po) : Prop := ∃ D, W.ownsMap Try.prog 81 (plainElem Try.prog 3) mb l.length D ∧ Reads D l
theorem owns_exact {W : World} {mb n : Nat} {D : DataW Unit} (h : W.ownsMap Try.prog 81 (plainElem Try.prog 3) mb n D) : W.ownsMap Try.prog 81 (plainElem Try.prog 3) mb (Maps.size D) D := by
  obtain ⟨es, clock, hb, F, hs, rfl⟩ := h
  exact ⟨es, clock, hb, F, by simp [Maps.size, length_sorted], rfl⟩
theorem PM.of {W : World} {mb n : Nat} {D : DataW Unit} {l : Po} (h : W.ownsMap Try.prog 81 (plainElem Try.prog 3) mb n D) (hr : Reads D l) : PM W mb l := ⟨D, hr.len ▸ owns_exact h, hr⟩
theorem PM.nf {W : World} {mb : Nat} {l : Po} (h : PM W mb l) : Nf l := by obtain ⟨D, _, h⟩ := h; exact h.nf
theorem PM.lt {W : World} {mb : Nat} {l : Po} (h : PM W mb l) : mb < W.heap.size := by obtain ⟨D, h, _⟩ := h; exact h.lt
theorem PM.new (W : World) : PM (W.alloc (.map #[] 0)) W.heap.size [] := ⟨.map [], World.ownsMap_made _ _ _ _, Reads.nil⟩
theorem PM.kept {W W2 : World} {mb : Nat} {l : Po} {row : Option Nat} (h : PM W mb l) (hg : W.grownBy W2 row) (hne : some mb ≠ row) : PM W2 mb l := by
  obtain ⟨D, hD, hr⟩ := h
  exact ⟨D, hD.kept hg hne, hr⟩
/-- What the block holds is all that counts. -/
theorem PM.same {W W2 : World} {mb : Nat} {l : Po} (h : PM W mb l) (e : W2.heap[mb]? = W.heap[mb]?) : PM W2 mb l := by
  obtain ⟨D, ⟨es, clock, hb, F, hs, hd⟩, hr⟩ := h
  exact ⟨D, ⟨es, clock, e.trans hb, F, hs, hd⟩, hr⟩
set_option maxRecDepth 100000 in
theorem PM.look {W : World} {mb : Nat} {l : Po} (h : PM W mb l) {e : Ex} (he : ExOk e) : (Instr.lookup 65 (.map (some mb)) (vE e) false).run Try.prog W = .ok (.int .i64 (co l e)) W := by
  obtain ⟨D, hD, hr⟩ := h
  have hz : (zeroValue 3).run Try.prog W = .ok (.int .i64 0) W := by kernel_rfl
  obtain ⟨c, hrun, hat, _⟩ := hD.lookup_int keyed81 Try.underlying65 Try.underlying3 hz (key_e he)
  rw [hr.at he] at hat
  injection hat with hat
  injection hat with _ hat
  rw [hrun, hat]
set_option maxRecDepth 100000 in
theorem PM.size {W : World} {mb : Nat} {l : Po} (h : PM W mb l) (ty : TypeId) : (Builtin.len_ #[65] ty #[.map (some mb)]).run Try.prog W = .ok (.int .i64 l.length) W := by
  obtain ⟨D, hD, hr⟩ := h
  rw [hD.len Try.underlying65 ty, hr.len]
theorem co_wf {n : Int} (h : 0 ≤ n) (h2 : n ≤ 1000000000000000000) : (Lit.int .i64 n).wf = true := by
  simp only [Lit.wf, decide_eq_true_eq, Bool.and_eq_true]
  first | omega | (constructor <;> omega) | (simp only [IntKind.min, IntKind.max]; omega) | (simp [IntKind.min, IntKind.max, IntKind.signed, IntKind.bits]; omega)
set_option maxRecDepth 100000 in
/-- 'p[e] = n' where n is the sum. -/
theorem PM.put {W : World} {mb : Nat} {l : Po} (h : PM W mb l) (hl : l.length ≤ 100000) {e : Ex} (he : ExOk e) {c : Int} (hc : 0 < c) (hw : co l e + c ≤ 1000000000000000000) :
    ∃ W2, (Instr.mapUpdate 65 (.map (some mb)) (vE e) (.int .i64 (co l e + c))).run Try.prog W = .ok () W2 ∧ PM W2 mb (ins l (e, c)) ∧ W.grownBy W2 (some mb) := by
  obtain ⟨D, hD, hr⟩ := h
  have h0 := co_nonneg hr.nf.pos e
  obtain ⟨W2, hrun, h2, hg⟩ := hD.update keyed81 Try.underlying65 (by unfold maxLen; omega) (key_e he) (plainElem_int (H := Unit) Try.underlying3 (co_wf (n := co l e + c) (by omega) hw))
  exact ⟨W2, hrun, PM.of h2 (hr.put he hc), hg⟩
set_option maxRecDepth 100000 in
/-- 'p[e] += c' in its two steps: the entry is found, or made; the sum is stored into it. -/
theorem PM.entry {W : World} {mb : Nat} {l : Po} (h : PM W mb l) (hl : l.length ≤ 100000) {e : Ex} (he : ExOk e) {c : Int} (hc : 0 < c) (hw : co l e + c ≤ 1000000000000000000) :
    ∃ (st : Nat) (W1 : World), (Instr.mapEntry 65 (.map (some mb)) (vE e)).run Try.prog W = .ok (.tuple #[.int .i64 (co l e), goInt st]) W1 ∧ W.grownBy W1 (some mb) ∧ W1.heap.size = W.heap.size ∧
      ∀ W2 : World, W2.heap[mb]? = W1.heap[mb]? → ∃ W3, (Instr.entryStore 65 (.map (some mb)) (goInt st) (.int .i64 (co l e + c))).run Try.prog W2 = .ok () W3 ∧ PM W3 mb (ins l (e, c)) ∧ W2.grownBy W3 (some mb) ∧ W3.heap.size = W2.heap.size := by
  have hlook := h.look he
  obtain ⟨Wu, hupd, hPu, _⟩ := h.put hl he hc hw
  obtain ⟨D, ⟨es, clock, hb, F, hs, hd⟩, hr⟩ := h
  have hz : ∀ u : World, (zeroValue 3).run Try.prog u = .ok (.int .i64 0) u := fun u => by kernel_rfl
  obtain ⟨v0, st, es1, clock1, hme, hv0, hst⟩ := WideElems.entry_then_store law81 Try.underlying65 hz hb F (key_e he)
  have hv : v0 = .int .i64 (co l e) := by
    rcases Maps.fit_look false keyed81 Try.underlying65 (hz W) hb F (key_e he) with ⟨hrun, hmiss, hat⟩ | ⟨e0, y, hm0, hk0, hrun, hRv, hat, hmore⟩
    · have e1 := hrun.symm.trans hlook
      injection e1 with e1
      rcases hv0 with ⟨e2, hm, hk, _⟩ | ⟨_, hq⟩
      · exact absurd hk (hmiss e2 hm)
      · rw [hq]
        simpa using e1
    · have e1 := hrun.symm.trans hlook
      injection e1 with e1
      rcases hv0 with ⟨e2, hm, hk, hq⟩ | ⟨hq, _⟩
      · have : e2 = e0 := by
          have hst2 := (stamped_iff es clock).1 F.stamped
          exact entry_eq_of_key hst2.2.2 hm hm0 (hk.trans hk0.symm)
        rw [hq, this]
        simpa using e1
      · exact absurd hk0 (hq e0 hm0)
  subst hv
  refine ⟨st, _, hme, ⟨rfl, rfl, rfl, by simp [setBlock], fun i _ hi => heap_setBlock_other hb _ (fun e => hi (by rw [e]))⟩, by simp [setBlock], fun W2 hW2 => ?_⟩
  rw [heap_setBlock_same hb] at hW2
  obtain ⟨es', clock', r1, r2⟩ := hst W2 (.int .i64 (co l e + c)) hW2
  refine ⟨_, r1, ?_, ⟨rfl, rfl, rfl, by simp [setBlock], fun i _ hi => heap_setBlock_other hW2 _ (fun e => hi (by rw [e]))⟩, by simp [setBlock]⟩
  have e2 := hupd.symm.trans r2
  injection e2 with _ e2
  refine hPu.same ?_
  rw [e2, heap_setBlock_same hW2, heap_setBlock_same hb]
/-- A round over the map, under way: what is left of the list. -/
def PR (W : World) (mb r : Nat) (l : Po) (lf : Ex → Bool) (cnt : Nat) : Prop := ∃ D left, W.ranges Try.prog 81 (plainElem Try.prog 3) mb r l.length D left cnt ∧ Reads D l ∧ (∀ t ∈ l, left (keyE t.1) = lf t.1) ∧ ∀ kl, left kl = true → Maps.has D kl = true
theorem PR.owns {W : World} {mb r : Nat} {l : Po} {lf : Ex → Bool} {cnt : Nat} (h : PR W mb r l lf cnt) : PM W mb l := by
  obtain ⟨D, left, h1, h2, _⟩ := h
  exact ⟨D, h1.owns, h2⟩
theorem PR.ne {W : World} {mb r : Nat} {l : Po} {lf : Ex → Bool} {cnt : Nat} (h : PR W mb r l lf cnt) : r ≠ mb := by
  obtain ⟨D, left, h1, _⟩ := h
  exact h1.ne
theorem PR.lt {W : World} {mb r : Nat} {l : Po} {lf : Ex → Bool} {cnt : Nat} (h : PR W mb r l lf cnt) : r < W.heap.size := by
  obtain ⟨D, left, h1, _⟩ := h
  exact h1.lt
theorem PR.kept {W W2 : World} {mb r : Nat} {l : Po} {lf : Ex → Bool} {cnt : Nat} {row : Option Nat} (h : PR W mb r l lf cnt) (hg : W.grownBy W2 row) (hb : some mb ≠ row) (hr : some r ≠ row) : PR W2 mb r l lf cnt := by
  obtain ⟨D, left, h1, h2⟩ := h
  exact ⟨D, left, h1.kept hg hb hr, h2⟩
set_option maxRecDepth 100000 in
theorem PM.range {W : World} {mb : Nat} {l : Po} (h : PM W mb l) : ∃ W2, (Instr.range 65 (.map (some mb))).run Try.prog W = .ok (.pointer (some ⟨W.heap.size, 0, none⟩)) W2 ∧ PR W2 mb W.heap.size l (fun _ => true) l.length ∧ W.grownBy W2 none ∧ W2.heap.size = W.heap.size + 1 := by
  obtain ⟨D, hD, hr⟩ := h
  obtain ⟨W2, h1, h2, h3, h4⟩ := hD.range keyed81 Try.underlying65
  rw [hr.len] at h2
  exact ⟨W2, h1, ⟨D, _, h2, hr, fun t ht => hr.has ht, fun kl h => h⟩, h3, h4⟩
set_option maxRecDepth 100000 in
theorem PR.next {W : World} {mb r : Nat} {l : Po} {lf : Ex → Bool} {cnt : Nat} (h : PR W mb r l lf cnt) (ty : TypeId) :
    (cnt = 0 ∧ (∀ t ∈ l, lf t.1 = false) ∧ (Instr.next (.pointer (some ⟨r, 0, none⟩)) false ty).run Try.prog W = .ok (.tuple #[.bool false]) W) ∨
    ∃ t ∈ l, ∃ W2 cnt2, lf t.1 = true ∧ (Instr.next (.pointer (some ⟨r, 0, none⟩)) false ty).run Try.prog W = .ok (.tuple #[.bool true, vE t.1, .int .i64 t.2]) W2 ∧ PR W2 mb r l (fun e => lf e && !decide (e = t.1)) cnt2 ∧ cnt2 < cnt ∧
      W.grownBy W2 (some r) ∧ W2.heap.size = W.heap.size ∧ (Instr.entry (.pointer (some ⟨r, 0, none⟩))).run Try.prog W2 = .ok (.tuple #[vE t.1, .int .i64 t.2]) W2 := by
  obtain ⟨D, left, h1, h2, h3, h4⟩ := h
  rcases h1.next keyed81 ty with ⟨a, b, c⟩ | ⟨key, v, kl, y, W2, cnt2, hkey, hlk, hv, hat, hrun, hrg, hlt, hgr, hsz, hen⟩
  · exact .inl ⟨a, fun t ht => by rw [← h3 t ht]; exact b _, c⟩
  · obtain ⟨t, ht, rfl⟩ := h2.only kl (h4 kl hlk)
    have e1 : key = vE t.1 := keyed81.inj hkey (key_e (h2.ex t ht))
    obtain ⟨a, rfl, rfl, _⟩ := plainElem_int_inv Try.underlying3 hv
    have e2 := (h2.hit t ht (.lit (.bool false))).symm.trans (hat _)
    injection e2 with e2
    injection e2 with _ e2
    subst e1
    subst e2
    refine .inr ⟨t, ht, W2, cnt2, by rw [← h3 t ht]; exact hlk, hrun, ⟨D, _, hrg, h2, fun x hx => ?_, fun kl hk => ?_⟩, hlt, hgr, hsz, hen⟩
    · show (left (keyE x.1) && !(keyE x.1).sameKey (keyE t.1)) = _
      rw [h3 x hx]
      congr 2
      by_cases q : x.1 = t.1
      · rw [q, WideAt.sameKey_self (keyE_lit (h2.ex t ht))]
        simp
      · rw [sameKey_ne (fun ek => q (keyE_inj (h2.ex x hx) (h2.ex t ht) ek))]
        simp [q]
    · simp only [Bool.and_eq_true] at hk
      exact h4 kl hk.1
section
variable {P : Program} {ops : Array Oper} {rest : List Oper} {o : Oper} {a : Act} {Q : Exit → Act → World → Prop} {W : World}
/-- A whole struct or array out of its block. -/
theorem load_run {ty : TypeId} {x : Operand} (ho : o.op = .load ty x) {b : Nat} {t : TypeId} {cs : Array Value} {d : TypeDesc} (hx : a.eval x = .pointer (some ⟨b, 0, none⟩)) (hb : W.heap[b]? = some (.cells cs t))
    (hd : (match d with | .struct _ | .array _ _ => true | _ => false) = true) (hu : P.underlying ty = some d) (hi : (P.info? ty).map (·.size) = some cs.size) : (execOp a.eval o).run P W = .ok (.value (.agg cs)) W := by
  have hr := run_loadVar_row (P := P) W b t ty cs (0, 0) d hb hu (by revert hd; cases d <;> simp) hi
  simp [execOp, ho, hx, Instr.loadAt, Instr.sureAddr, Sem.run_bind, Sem.run_pure, Result.andThen, hr]
/-- A whole struct or array into its block. -/
theorem store_whole (hgd : o.guard = none) {ty : TypeId} {x v : Operand} (ho : o.op = .store ty x v) (hN : o.dst = none) (b : Nat) (t : TypeId) (old cs : Array Value) (hx : a.eval x = .pointer (some ⟨b, 0, none⟩)) (hv : a.eval v = .agg cs) (hb : W.heap[b]? = some (.cells old t))
    (hi : (P.info? ty).map (·.size) = some cs.size) (hs : old.size = cs.size) (h1 : cs.all (·.oneCell') = true)
    (h : wpList P ops Q rest a (W.setRow b cs)) : wpList P ops Q (o :: rest) a W := by
  refine wpList_plain hgd fun K hK => ?_
  unfold Oper.wp
  have hr := run_storeVar_row (P := P) W b t ty old cs hb hi hs h1
  have : (execOp a.eval o).run P W = .ok .skip (W.setRow b cs) := by
    simp [execOp, ho, hx, hv, Instr.storeAt, Instr.sureAddr, Sem.run_bind, Sem.run_pure, Result.andThen, hr]
  rw [this]
  show K (a.put o.dst undef) _
  rw [hN]
  exact hK _ _ h
theorem store_last (hgd : o.guard = none) {ty : TypeId} {x v : Operand} (ho : o.op = .store ty x v) (hN : o.dst = none) (b : Nat) (t : TypeId) (old cs : Array Value) (hx : a.eval x = .pointer (some ⟨b, 0, none⟩)) (hv : a.eval v = .agg cs) (hb : b = W.heap.size)
    (hi : (P.info? ty).map (·.size) = some cs.size) (hs : old.size = cs.size) (h1 : cs.all (·.oneCell') = true)
    (h : wpList P ops Q rest a (W.alloc (.cells cs t))) : wpList P ops Q (o :: rest) a (W.alloc (.cells old t)) := by
  subst hb
  exact store_whole hgd ho hN W.heap.size t old cs hx hv (heap_alloc_last _ _) hi hs h1 (by rw [World.setRow_alloc_new]; exact h)
theorem gate_build {t : TypeId} {q : Array (Nat × Operand)} (_ho : o.op = .build t q) (h : wpList P ops Q (o :: rest) a W) : wpList P ops Q (o :: rest) a W := h
theorem gate_alloc {t : TypeId} (_ho : o.op = .alloc t) (h : wpList P ops Q (o :: rest) a W) : wpList P ops Q (o :: rest) a W := h
theorem gate_load {t : TypeId} {x : Operand} (_ho : o.op = .load t x) (h : wpList P ops Q (o :: rest) a W) : wpList P ops Q (o :: rest) a W := h
/-- A new block, its cells under a name. -/
theorem alloc_law (hgd : o.guard = none) {t : TypeId} (c : Array Value) (hrun : (execOp a.eval o).run P W = .ok (.value (.pointer (some ⟨W.heap.size, 0, none⟩))) (W.alloc (.cells c t))) (h : ∀ u, u = c → wpList P ops Q rest (a.put o.dst (.pointer (some ⟨W.heap.size, 0, none⟩))) (W.alloc (.cells u t))) : wpList P ops Q (o :: rest) a W := by
  refine wpList_plain hgd fun K hK => ?_
  unfold Oper.wp
  rw [hrun]
  exact hK _ _ (h _ rfl)
theorem alloc_zero (hgd : o.guard = none) {t : TypeId} (ho : o.op = .alloc t) (cz : Array Value) (hz : ∀ w, (zeroValue t).run P w = .ok (.agg cz) w) (h : wpList P ops Q rest (a.put o.dst (.pointer (some ⟨W.heap.size, 0, none⟩))) (W.alloc (.cells cz t))) : wpList P ops Q (o :: rest) a W := by
  refine alloc_law hgd (t := t) cz ?_ (fun u hu => by subst hu; exact h)
  simp [execOp, ho, hz, go_sem, Value.cells, Result.andThen]
theorem run_law (hw : Region.wanted o (yielded ops a.tmps) = true) (v : Value) (hrun : (execOp a.eval o).run P W = .ok (.value v) W) (h : wpList P ops Q rest (a.put o.dst v) W) : wpList P ops Q (o :: rest) a W := by
  unfold wpList
  rw [if_pos hw]
  left
  unfold Oper.wp
  rw [hrun]
  exact h
end
theorem blk_at {W : World} {b k : Nat} {c : Array Value} {v : Value} {t : TypeId} (h : W.heap[b]? = some (.cells c t (0, 0))) (hk : c[k]? = some v) : W.cell? ⟨b, k, none⟩ = some v := by
  rw [cell_of_row W b k c t (0, 0) h, hk]
theorem blk_fro {W : World} {b k : Nat} {c : Array Value} {t : TypeId} (h : W.heap[b]? = some (.cells c t (0, 0))) : W.frozen? ⟨b, k, none⟩ = false := by simp [World.frozen?, h]
theorem cE_one (e : Ex) : (cE e).all (·.oneCell') = true := by
  unfold cE
  rw [List.all_toArray, List.all_map]
  exact List.all_eq_true.2 fun x _ => rfl
theorem ok_inj {α : Type} {x y : α} {A B : World} (h : (Result.ok x A : Result α) = .ok y B) : x = y ∧ A = B := by
  injection h with h1 h2
  exact ⟨h1, h2⟩
set_option maxRecDepth 100000 in
/-- The entry found or made: looked up behind it, the element is the same. -/
theorem entry_look {W W1 : World} {mb : Nat} {l : Po} (h : PM W mb l) {e : Ex} (he : ExOk e) {x : Value} (hm : (Instr.mapEntry 65 (.map (some mb)) (vE e)).run Try.prog W = .ok x W1) : (Instr.lookup 65 (.map (some mb)) (vE e) false).run Try.prog W1 = .ok (.int .i64 (co l e)) W1 := by
  have hlook := h.look he
  obtain ⟨D, ⟨es, clock, hb, F, hs, hd⟩, hr⟩ := h
  have hz : ∀ u : World, (zeroValue 3).run Try.prog u = .ok (.int .i64 0) u := fun u => by kernel_rfl
  have hkey := key_e he
  rcases law81.find W hkey es.toList F.keys with ⟨h1, h2⟩ | ⟨j, e0, h1, h2, h3⟩
  · have e1 : (Instr.mapEntry 65 (.map (some mb)) (vE e)).run Try.prog W = .ok (.tuple #[.int .i64 0, goInt clock]) (setBlock W mb (.map (es.push ⟨vE e, .int .i64 0, clock⟩) (clock + 1))) := by
      simp [Instr.mapEntry, run_underlying Try.underlying65, MapKept.run_getObj_map hb, law81.check W false hkey, h1, hz, MapKept.run_setObj_map _ hb, Result.andThen, setBlock]
    obtain rfl := (ok_inj (hm.symm.trans e1)).2
    have hl0 : (Instr.lookup 65 (.map (some mb)) (vE e) false).run Try.prog W = .ok (.int .i64 0) W := by
      simp [Instr.lookup, run_underlying Try.underlying65, MapKept.run_getObj_map hb, law81.check W _ hkey, h1, hz, Result.andThen]
    have e3 := (ok_inj (hlook.symm.trans hl0)).1
    rw [e3]
    have hb1 := heap_setBlock_same hb (.map (es.push ⟨vE e, .int .i64 0, clock⟩) (clock + 1))
    rcases law81.find (setBlock W mb (.map (es.push ⟨vE e, .int .i64 0, clock⟩) (clock + 1))) hkey (es.push ⟨vE e, .int .i64 0, clock⟩).toList (fun y hy => by
      rw [Array.toList_push] at hy
      rcases List.mem_append.1 hy with hy | hy
      · exact F.keys y hy
      · rw [List.mem_singleton.1 hy]
        exact ⟨_, hkey⟩) with ⟨_, k2⟩ | ⟨j, e0, k1, k2, k3⟩
    · exact absurd rfl (k2 ⟨vE e, .int .i64 0, clock⟩ (by simp))
    · have hv : e0.val = .int .i64 0 := by
        have hmem := List.mem_of_getElem? k2
        rw [Array.toList_push] at hmem
        rcases List.mem_append.1 hmem with hy | hy
        · exact absurd k3 (h2 e0 hy)
        · rw [List.mem_singleton.1 hy]
      simp [Instr.lookup, run_underlying Try.underlying65, MapKept.run_getObj_map hb1, law81.check _ _ hkey, Result.andThen] at k1 ⊢
      simp [k1, hv, Result.andThen]
  · have hj : es[j]? = some e0 := by simpa using h2
    have hsame : es.modify j (fun q => { q with key := vE e }) = es := by
      apply Array.ext'
      rw [Array.toList_modify, modify_eq_set _ _ _ _ h2]
      have : ({ e0 with key := vE e } : MapEntry) = e0 := by rw [← h3]
      rw [this]
      exact set_self _ _ _ h2
    have e1 : (Instr.mapEntry 65 (.map (some mb)) (vE e)).run Try.prog W = .ok (.tuple #[e0.val, goInt e0.born]) (setBlock W mb (.map es clock)) := by
      simp [Instr.mapEntry, run_underlying Try.underlying65, MapKept.run_getObj_map hb, law81.check W false hkey, h1, hj, h3, law81.stays W hkey, hsame, MapKept.run_setObj_map _ hb, Result.andThen, setBlock]
    obtain rfl := (ok_inj (hm.symm.trans e1)).2
    have hb1 := heap_setBlock_same hb (.map es clock)
    exact PM.look (mb := mb) ⟨D, ⟨es, clock, hb1, F, hs, hd⟩, hr⟩ he
def addOk (l : Po) (t : Ex × Int) : Bool := decide (co l t.1 + t.2 ≤ 1000000000000000) && decide ((ins l t).length ≤ 200)
theorem grown_drew {W W' : World} {row : Option Nat} (h : W.grownBy W' row) : W.grownBy W'.drew row := ⟨h.os, h.tape, h.output, h.size, h.block⟩
theorem grown_then {a b c : World} {mb : Nat} (h : a.grownBy b (some mb)) (k : b.grownBy c (some mb)) : a.grownBy c (some mb) := h.andThen k (fun j hj => .inr hj)
set_option maxRecDepth 100000 in
set_option maxHeartbeats 4000000 in
theorem add_calls (mb : Nat) (l : Po) (e : Ex) (c : Int) (w : World) (hP : PM w mb l) (he : ExOk e) (hc : 0 < c) (hcc : c ≤ 1000000000000000) (hl : l.length ≤ 1000) (hco : co l e ≤ 1000000000000000) :
    Calls Try.prog 99 #[.map (some mb), vE e, .int .i64 c] w fun r w' => r = .returned (.bool (addOk l (e, c))) ∧ PM w' mb (ins l (e, c)) ∧ w.grownBy w' (some mb) := by
  have h0 := co_nonneg hP.nf.pos e
  have hsum : co (ins l (e, c)) e = co l e + c := by rw [ins_co (t := (e, c)) he.1 e hP.nf]; simp
  have hlt := hP.lt
  have hp1 := (hP.kept (World.grownBy_alloc w (.cells (cE e) 81) (some w.heap.size)) (by intro h; injection h with h; omega))
  have hlook1 := hp1.look he
  obtain ⟨st, W2, hme, hg2, hs2, hst⟩ := PM.entry (W := (w.alloc (.cells (cE e) 81)).drew) (hp1.same rfl) (by omega) he hc (by omega)
  have hlook2 := entry_look (W := (w.alloc (.cells (cE e) 81)).drew) (hp1.same rfl) he hme
  obtain ⟨W3, hes, hP3, hg3, hs3⟩ := hst W2 rfl
  replace hes : (Instr.entryStore 65 (.map (some mb)) (.int .i64 (st : Int)) (.int .i64 (co l e + c))).run Try.prog W2 = .ok () W3 := hes
  replace hme : (Instr.mapEntry 65 (.map (some mb)) (vE e)).run Try.prog (w.alloc (.cells (cE e) 81)).drew = .ok (.tuple #[.int .i64 (co l e), .int .i64 (st : Int)]) W2 := hme
  have HA := Aside0.mk (show w.grownBy W3 (some mb) from grown_then (grown_drew (World.grownBy_alloc w (.cells (cE e) 81) (some mb))) (grown_then hg2 hg3))
  have hlook3 := hP3.look he
  have hlen3 := fun ty => hP3.size ty
  rw [hsum] at hlook3
  have HP := Aside0.mk hP3
  have hlookD := PM.look (W := (w.alloc (.cells (cE e) 81)).drew) (hp1.same rfl) he
  have G0 : (w.alloc (.cells (cE e) 81)).heap[w.heap.size]? = some (.cells (cE e) 81 (0, 0)) := blk_new w (.cells (cE e) 81)
  have G2 := (hg2.block w.heap.size (by show w.heap.size < (w.alloc (.cells (cE e) 81)).heap.size; rw [World.size_alloc]; omega) (by intro h; injection h with h; omega)).trans G0
  have G3 := Aside0.mk ((hg3.block w.heap.size (by rw [hs2]; show w.heap.size < (w.alloc (.cells (cE e) 81)).heap.size; rw [World.size_alloc]; omega) (by intro h; injection h with h; omega)).trans G2)
  have HS := Aside0.mk (show (cE e).size = 8 by rw [cE_size]; exact he.1)
  have hwr : wrap64 (co l e + c) = co l e + c := by simp only [wrap64]; omega
  have HR : addOk l (e, c) = (decide (co l e + c ≤ 1000000000000000) && decide (((ins l (e, c)).length : Int) ≤ 200)) := by
    unfold addOk
    congr 1
    exact decide_eq_decide.2 (by omega)
  rw [HR]
  generalize hx : co l e = x at *
  generalize hn : ((ins l (e, c)).length : Int) = n at *
  clear hx hn HR h0 hsum hg2 hs2 hg3 hs3 hst hP3 hp1 hP hco
  unfold vE at *
  generalize hcell : cE e = ce at *
  clear hcell
  go_enter Try.func99, Try.ntmps99
  go_wp2
  refine start_ (n := 8) (S := fun w' => (Instr.lookup 65 (.map (some mb)) (.agg ce) false).run Try.prog w' = .ok (.int .i64 x) w' ∧ w'.heap[w.heap.size]? = some (.cells ce 81 (0, 0))) (ds := [7]) #[false, false, false, false, false, false, false, false] (by kernel_rfl) rfl rfl ⟨hlookD, G0⟩ (fun hHeld => ?_)
  refine pure_ (i := 0) (N := some 7) (v := ?_) (a' := ?_) #[true, false, false, false, false, false, false, false] rfl rfl (by kernel_rfl) (fun _ _ _ h => h) (Or.inl ⟨by rfl, ?_⟩) ?_ ?_
  rotate_left
  · intro w'
    go_simp
    with_reducible rfl
  rotate_left
  · simp only [Act.put, List.setIfInBounds_toArray, List.set_cons_zero, List.set_cons_succ, i64_w, i32_w]
    rfl
  refine take_ (i := 1) (N := some 8) (v := ?_) (a' := ?_) #[true, true, false, false, false, false, false, false] rfl rfl (by kernel_rfl) (fun _ _ _ h => h) (Or.inl ⟨by rfl, ?_⟩) hHeld ?_ ?_
  rotate_left
  · rintro w' ⟨s0, s1⟩
    refine load_run (ty := 81) (x := .tmp 4) (b := w.heap.size) (t := 81) (cs := ce) ?h1 ?h2 s1 ?h3 Try.underlying81 ?h4
    case h1 => rfl
    case h2 => rfl
    case h3 => rfl
    case h4 => rw [HS.out]; kernel_rfl
  rotate_left
  · simp only [Act.put, List.setIfInBounds_toArray, List.set_cons_zero, List.set_cons_succ, i64_w, i32_w]
    rfl
  refine take_ (i := 2) (N := some 9) (v := ?_) (a' := ?_) #[true, true, true, false, false, false, false, false] rfl rfl (by kernel_rfl) (fun _ _ _ h => h) (Or.inl ⟨by rfl, ?_⟩) hHeld ?_ ?_
  rotate_left
  · rintro w' ⟨s0, s1⟩
    go_simp
    with_reducible rfl
  rotate_left
  · simp only [Act.put, List.setIfInBounds_toArray, List.set_cons_zero, List.set_cons_succ, i64_w, i32_w]
    rfl
  refine pure_ (i := 3) (N := some 10) (v := ?_) (a' := ?_) #[true, true, true, true, false, false, false, false] rfl rfl (by kernel_rfl) (fun _ _ _ h => h) (Or.inl ⟨by rfl, ?_⟩) ?_ ?_
  rotate_left
  · intro w'
    go_simp
    with_reducible rfl
  rotate_left
  · simp only [Act.put, List.setIfInBounds_toArray, List.set_cons_zero, List.set_cons_succ, i64_w, i32_w]
    rfl
  refine pure_ (i := 4) (N := some 11) (v := ?_) (a' := ?_) #[true, true, true, true, true, false, false, false] rfl rfl (by kernel_rfl) (fun _ _ _ h => h) (Or.inl ⟨by rfl, ?_⟩) ?_ ?_
  rotate_left
  · intro w'
    go_simp
    with_reducible rfl
  rotate_left
  · simp only [Act.put, List.setIfInBounds_toArray, List.set_cons_zero, List.set_cons_succ, i64_w, i32_w, hwr]
    rfl
  refine one_ (i := 5) (N := some 12) #[true, true, true, true, true, true, false, false] rfl rfl (by kernel_rfl) (by decide) (fun K hK => ?_)
  refine value_ rfl rfl (v := .tuple #[.int .i64 x, .int .i64 (st : Int)]) (w1 := W2) ?hr ?_
  case hr =>
    go_simp
  refine hK.out _ _ ⟨hlook2, G2⟩ (fun hHeld2 => ?_)
  clear hK K hHeld hHeld2
  refine norm_ (a' := ?_) ?_ ?_
  rotate_left
  · show Act.put _ (some 12) _ = _
    simp only [Act.put, List.setIfInBounds_toArray, List.set_cons_zero, List.set_cons_succ, i64_w, i32_w]
    rfl
  refine pure_ (i := 6) (N := some 13) (v := ?_) (a' := ?_) #[true, true, true, true, true, true, true, false] rfl rfl (by kernel_rfl) (fun _ _ _ h => h) (Or.inl ⟨by rfl, ?_⟩) ?_ ?_
  rotate_left
  · intro w'
    go_simp
    with_reducible rfl
  rotate_left
  · simp only [Act.put, List.setIfInBounds_toArray, List.set_cons_zero, List.set_cons_succ, i64_w, i32_w]
    rfl
  refine last_ (i := 7) (N := none) #[true, true, true, true, true, true, true, true] rfl rfl (by kernel_rfl) (by decide) (fun K hK => ?_)
  refine skip_ rfl rfl (w1 := W3) ?hr ?_
  case hr =>
    go_simp
  refine hK.out _ _ ?_
  clear hK K
  refine done_ (by kernel_rfl) ?_
  by_cases h1 : x + c ≤ 1000000000000000
  · have hd1 : decide (x + c ≤ 1000000000000000) = true := decide_eq_true h1
    go_wp2_with (first | ((with_reducible refine gate_load (t := 81) (x := .tmp 4) rfl ?_); refine run_law (by rfl) (.agg ce) (load_run (ty := 81) (x := .tmp 4) (b := w.heap.size) (t := 81) (cs := ce) ?h1 ?h2 G3.out ?h3 Try.underlying81 ?h4) ?_; (case h1 => rfl); (case h2 => rfl); (case h3 => rfl); (case h4 => rw [HS.out]; kernel_rfl)))
    go_ret
    exact ⟨by simp [hd1], HP.out, HA.out⟩
  · have hd1 : decide (x + c ≤ 1000000000000000) = false := decide_eq_false h1
    go_wp2_with (first | ((with_reducible refine gate_load (t := 81) (x := .tmp 4) rfl ?_); refine run_law (by rfl) (.agg ce) (load_run (ty := 81) (x := .tmp 4) (b := w.heap.size) (t := 81) (cs := ce) ?h1 ?h2 G3.out ?h3 Try.underlying81 ?h4) ?_; (case h1 => rfl); (case h2 => rfl); (case h3 => rfl); (case h4 => rw [HS.out]; kernel_rfl)))
    go_ret
    exact ⟨by simp [hd1], HP.out, HA.out⟩
end
section
set_option linter.unusedVariables false
set_option linter.unusedSimpArgs false

theorem len_mono : ∀ {q p : Po}, Nf p → Nf q → (∀ e, co p e ≤ co q e) → p.length ≤ q.length
  | [], [], _, _, _ => Nat.le_refl _
  | [], t :: p, hp, _, h => by
    have h1 := h t.1
    rw [hp.co_mem (List.mem_cons_self ..)] at h1
    have h2 := hp.pos t (List.mem_cons_self ..)
    simp only [co] at h1
    omega
  | u :: q, [], _, _, _ => Nat.zero_le _
  | u :: q, t :: p, hp, hq, h => by
    have h1 := h t.1
    rw [hp.co_mem (List.mem_cons_self ..)] at h1
    have h2 := hp.pos t (List.mem_cons_self ..)
    by_cases e : u.1 = t.1
    · have := len_mono hp.tail hq.tail (fun x => by
        have h3 := h x
        simp only [co] at h3
        by_cases ex : t.1 = x
        · have h4 : co p x = 0 := co_zero (fun y hy => by rw [← ex]; exact hp.head_ne y hy)
          rw [h4]
          exact co_nonneg hq.tail.pos x
        · rw [if_neg ex, if_neg (by rw [e]; exact ex)] at h3
          omega)
      simp only [List.length_cons]
      omega
    · have ht : co (u :: q) t.1 = co q t.1 := by
        simp only [co]
        rw [if_neg e]
        omega
      have hm := hq.tail.mem_iff t.1 (co q t.1)
      have hmem : (t.1, co q t.1) ∈ q := hm.2 ⟨rfl, by omega⟩
      have hlt := (List.pairwise_cons.1 hq.ord).1 _ hmem
      have := len_mono (p := t :: p) hp hq.tail (fun x => by
        have h3 := h x
        by_cases ex : u.1 = x
        · have h4 : co (t :: p) x = 0 := co_zero (fun y hy q0 => by
            rw [ex] at hlt
            rcases List.mem_cons.1 hy with rfl | hy
            · rw [q0, lessE_irr] at hlt; cases hlt
            · have h5 := lessE_trans hlt ((List.pairwise_cons.1 hp.ord).1 y hy)
              rw [q0, lessE_irr] at h5; cases h5)
          rw [h4]
          exact co_nonneg hq.tail.pos x
        · simp only [co] at h3 ⊢
          rw [if_neg ex] at h3
          omega)
      simp only [List.length_cons] at this ⊢
      omega
theorem fits_mono {p q : Po} (hp : Nf p) (hq : Nf q) (h : ∀ e, co p e ≤ co q e) (hf : Fits q) : Fits p :=
  ⟨fun e => Int.le_trans (h e) (hf.1 e), Nat.le_trans (len_mono hp hq h) hf.2⟩
theorem fits_step {o : Po} {t : Ex × Int} (ho : Nf o) (ht : t.1.length = 8) (hf : Fits o) (h : addOk o t = true) : Fits (ins o t) := by
  simp only [addOk, Bool.and_eq_true, decide_eq_true_eq] at h
  refine ⟨fun e => ?_, h.2⟩
  rw [ins_co ht e ho]
  by_cases he : t.1 = e
  · rw [if_pos he, ← he]; exact h.1
  · rw [if_neg he, Int.add_zero]; exact hf.1 e
theorem fits_break {o : Po} {t : Ex × Int} (ho : Nf o) (ht : t.1.length = 8) (h : addOk o t = false) : ¬ Fits (ins o t) := fun hf => by
  have h1 := hf.1 t.1
  rw [ins_co ht t.1 ho, if_pos rfl] at h1
  have : addOk o t = true := by
    simp only [addOk, Bool.and_eq_true, decide_eq_true_eq]
    exact ⟨h1, hf.2⟩
  rw [h] at this
  cases this
theorem addF_cases {x y : Po} (hx : NfE x) (hy : NfE y) : (Fits (insAll x y) ∧ addF x y = some (insAll x y)) ∨ (¬ Fits (insAll x y) ∧ addF x y = none) := by
  have ht := hy.terms
  rcases intoAll_law (ts := y) (fun t h => (ht t h).1) (fun t h => (ht t h).2.1) hx.nf hx.top with ⟨h1, h2⟩ | ⟨h1, h2⟩
  · unfold addF few
    rw [h2]
    simp only [Option.bind_some]
    by_cases h3 : (insAll x y).length ≤ 200
    · exact .inl ⟨⟨h1, h3⟩, if_pos h3⟩
    · exact .inr ⟨fun h => h3 h.2, if_neg h3⟩
  · unfold addF few
    rw [h2]
    exact .inr ⟨fun h => h1 h.1, rfl⟩
/-- The term's part at exponents. -/
def at_ (e : Ex) (t : Ex × Int) : Int := if t.1 = e then t.2 else 0
theorem co_at (l : Po) (e : Ex) : co l e = sumOver (at_ e) l := co_sum l e
theorem at_nonneg {l : Po} (h : Pos l) (e : Ex) : ∀ t ∈ l, 0 ≤ at_ e t := fun t ht => by
  have := h t ht
  unfold at_
  split <;> omega
/-- What the map out holds while a round over s adds its terms to z. -/
structure Rnd (z s : Ex → Int) (o : Po) : Prop where
  nf : Nf o
  fits : Fits o
  sum : ∀ e, co o e = z e + s e
theorem Rnd.start {o : Po} (ho : Nf o) (hf : Fits o) {s : Po} {lf : Ex → Bool} (h : ∀ t ∈ s, lf t.1 = true) : Rnd (co o) (fun e => sumOver (at_ e) (gone s lf)) o :=
  ⟨ho, hf, fun e => by rw [gone_none h]; simp [sumOver]⟩
theorem Rnd.step {z : Ex → Int} {s : Po} {lf : Ex → Bool} {o : Po} (h : Rnd z (fun e => sumOver (at_ e) (gone s lf)) o) (hs : Nf s) {t : Ex × Int} (ht : t ∈ s) (hl : lf t.1 = true) (hok : addOk o t = true) : Rnd z (fun e => sumOver (at_ e) (gone s (fun e => lf e && !decide (e = t.1)))) (ins o t) := by
  refine ⟨ins_nf (hs.len t ht) (hs.pos t ht) h.nf, fits_step h.nf (hs.len t ht) h.fits hok, fun e => ?_⟩
  rw [ins_co (hs.len t ht) e h.nf, h.sum, gone_step hs ht hl (fun _ => rfl)]
  unfold at_
  omega
theorem Rnd.bad {z : Ex → Int} {s : Po} {lf : Ex → Bool} {o : Po} (h : Rnd z (fun e => sumOver (at_ e) (gone s lf)) o) (hs : Nf s) {t : Ex × Int} (ht : t ∈ s) (hl : lf t.1 = true) (hok : addOk o t = false) {F : Po} (hF : Nf F) (hz : ∀ e, z e + co s e ≤ co F e) : ¬ Fits F := fun hf => by
  refine fits_break h.nf (hs.len t ht) hok (fits_mono (ins_nf (hs.len t ht) (hs.pos t ht) h.nf) hF (fun e => ?_) hf)
  have h1 := gone_step hs ht hl (left' := fun e => lf e && !decide (e = t.1)) (fun _ => rfl) (at_ e)
  have h2 := gone_le (l := s) (left := fun e => lf e && !decide (e = t.1)) (at_nonneg hs.pos e)
  have h3 := hz e
  rw [co_at s e] at h3
  rw [ins_co (hs.len t ht) e h.nf, h.sum]
  change z e + sumOver (at_ e) (gone s lf) + at_ e t ≤ _
  omega
theorem Rnd.done {z : Ex → Int} {s : Po} {lf : Ex → Bool} {o : Po} (h : Rnd z (fun e => sumOver (at_ e) (gone s lf)) o) (hl : ∀ t ∈ s, lf t.1 = false) : ∀ e, co o e = z e + co s e := fun e => by
  rw [h.sum, gone_all hl, co_at s e]
end
section
open Go.RowKit Go.Maps Go.ChangeShapes Go.WideShapes Go.MapKept Go.ChangeMaps Go.WideElems Go.Proofs.Ytlidibbdacohaaa.PRingEquals Go.Proofs.YtlidibbdacohaaaW.PrintWords Go.Proofs.YtlidibbdacohaaaW.PrintLast Go.Proofs.YtlidibbdacohaaaW.PrintMore
set_option linter.unusedVariables false
set_option linter.unusedSimpArgs false

theorem zero81 (w : World) : (zeroValue 81).run Try.prog w = .ok (.agg (cE zeros8)) w := by
  have h : (Try.prog.info? 81).map (fun i => (i.zero, i.size)) = some (some (.agg (cE zeros8)), 8) := by kernel_rfl
  exact (zero_of_info h).1 w
theorem PM_below {w W : World} {mb : Nat} {l : Po} (h : PM w mb l) (hB : Below w.heap.size w W) : PM W mb l := h.same (hB.block mb h.lt)
/-- The memory of a function that fills a map of its own: the map, and a row beside it. -/
structure Pl (w W : World) (ob rb : Nat) (rc : Array Value) (o : Po) : Prop where
  below : Below w.heap.size w W
  pm : PM W ob o
  ge : w.heap.size ≤ ob
  row : W.heap[rb]? = some (.cells rc 65 (0, 0))
  ne : rb ≠ ob
theorem heap_lt {W : World} {b : Nat} {o : Obj} (h : W.heap[b]? = some o) : b < W.heap.size := (Array.getElem?_eq_some_iff.1 h).1
theorem Pl.quiet {w W W2 : World} {ob rb : Nat} {rc : Array Value} {o : Po} (h : Pl w W ob rb rc o) (hg : W.grownBy W2 none) : Pl w W2 ob rb rc o :=
  ⟨h.below.grown hg h.below.size (fun k e => by cases e), h.pm.kept hg (by simp), h.ge, (hg.block rb (heap_lt h.row) (by simp)).trans h.row, h.ne⟩
theorem Pl.iter {w W W2 : World} {ob rb r : Nat} {rc : Array Value} {o : Po} (h : Pl w W ob rb rc o) (hg : W.grownBy W2 (some r)) (h1 : w.heap.size ≤ r) (h2 : r ≠ ob) (h3 : r ≠ rb) : Pl w W2 ob rb rc o :=
  ⟨h.below.grown hg h.below.size (fun k e => by injection e with e; omega), h.pm.kept hg (by intro e; injection e with e; omega), h.ge, (hg.block rb (heap_lt h.row) (by intro e; injection e with e; omega)).trans h.row, h.ne⟩
theorem Pl.add {w W W2 : World} {ob rb : Nat} {rc : Array Value} {o o2 : Po} (h : Pl w W ob rb rc o) (hg : W.grownBy W2 (some ob)) (hp : PM W2 ob o2) : Pl w W2 ob rb rc o2 :=
  ⟨h.below.grown hg h.below.size (fun k e => by injection e with e; have := h.ge; omega), hp, h.ge, (hg.block rb (heap_lt h.row) (by intro e; injection e with e; exact h.ne e)).trans h.row, h.ne⟩
/-- Which map comes next. -/
structure Turn (w : World) (x y F : Po) (rc : Array Value) (i : Nat) (o : Po) (sb : Nat) (s : Po) : Prop where
  cell : rc[i]? = some (.map (some sb))
  pm : PM w sb s
  nf : NfE s
  le : ∀ e, co o e + co s e ≤ co F e
  next : ∀ o2, Nf o2 → (∀ e, co o2 e = co o e + co s e) → (i + 1 = 1 ∧ o2 = x) ∨ (i + 1 = 2 ∧ o2 = F)
set_option maxRecDepth 100000 in
set_option maxHeartbeats 4000000 in
theorem plus_calls (ba bb : Nat) (x y : Po) (w : World) (hA : PM w ba x) (hB : PM w bb y) (hx : NfE x) (hy : NfE y) :
    Calls Try.prog 79 #[.map (some ba), .map (some bb)] w fun r w' => Below w.heap.size w w' ∧ ((∃ ob l, addF x y = some l ∧ r = .returned (.tuple #[.map (some ob), .bool true]) ∧ PM w' ob l) ∨ (addF x y = none ∧ r = .returned (.tuple #[.map none, .bool false]))) := by
  have hmm := @run_makeMap Try.prog
  have HA := Aside0.mk hA
  have HB := Aside0.mk hB
  have HX := Aside0.mk hx
  have HY := Aside0.mk hy
  clear hA hB hx hy
  go_enter Try.func79, Try.ntmps79
  go_wp2
  obtain ⟨rc, hrc⟩ : ∃ rc : Array Value, rc = #[.map (some ba), .map (some bb)] := ⟨_, rfl⟩
  rw [← hrc]
  have HF := Aside0.mk (addF_cases HX.out HY.out)
  have HFN := Aside0.mk (insAll_nf (fun t h => (HY.out.terms t h).1) (fun t h => (HY.out.terms t h).2.1) HX.out.nf)
  have HFC := Aside0.mk (fun e => insAll_co (fun t h => (HY.out.terms t h).1) (fun t h => (HY.out.terms t h).2.1) e HX.out.nf)
  generalize insAll x y = F at HF HFN HFC
  have hsz : (w.alloc (.map #[] 0)).heap.size = w.heap.size + 1 := World.size_alloc _ _
  have P0 := Aside0.mk (show Pl w ((w.alloc (.map #[] 0)).alloc (.cells rc 65)) w.heap.size (w.heap.size + 1) rc [] from
    ⟨below_step (below_alloc (Below.refl _ _) _) (below_alloc (Below.refl _ _) _), (PM.new w).kept (World.grownBy_alloc _ _ none) (by simp), Nat.le_refl _, by have := blk_new (w.alloc (.map #[] 0)) (.cells rc 65); rw [hsz] at this; exact this, by omega⟩)
  have HT := Aside0.mk (show ∀ (i : Nat) (o : Po), ((i = 0 ∧ o = []) ∨ (i = 1 ∧ o = x) ∨ (i = 2 ∧ o = F)) → i < 2 → ∃ sb s, Turn w x y F rc i o sb s from by
    rintro i o (⟨rfl, rfl⟩ | ⟨rfl, rfl⟩ | ⟨rfl, _⟩) hi
    · refine ⟨ba, x, ⟨by rw [hrc]; rfl, HA.out, HX.out, fun e => ?_, fun o2 h1 h2 => .inl ⟨rfl, ?_⟩⟩⟩
      · have := HFC.out e
        have := co_nonneg HY.out.nf.pos e
        simp only [co]
        omega
      · exact Nf.ext h1 HX.out.nf (fun e => by rw [h2]; simp [co])
    · refine ⟨bb, y, ⟨by rw [hrc]; rfl, HB.out, HY.out, fun e => ?_, fun o2 h1 h2 => .inr ⟨rfl, ?_⟩⟩⟩
      · rw [HFC.out e]
        exact Int.le_refl _
      · exact Nf.ext h1 HFN.out (fun e => by rw [h2, HFC.out e])
    · omega)
  clear HA HB HY hsz HFC
  generalize ((w.alloc (.map #[] 0)).alloc (.cells rc 65)) = W at P0 ⊢
  generalize w.heap.size + 1 = rb at P0 ⊢
  clear hrc
  go_loopg [16] 2 (fun kq v16 w1 => ∃ (i : Nat) (o : Po), v16 = .int .i64 (i : Int) ∧ Aside0 (kq + i = 2) ∧ Aside0 (Fits o) ∧ Aside0 ((i = 0 ∧ o = []) ∨ (i = 1 ∧ o = x) ∨ (i = 2 ∧ o = F)) ∧ Aside0 (Pl w w1 w.heap.size rb rc o))
  case atStart => exact ⟨0, [], rfl, ⟨rfl⟩, ⟨⟨fun e => by simp [co], by simp⟩⟩, ⟨.inl ⟨rfl, rfl⟩⟩, P0⟩
  case round =>
    clear P0
    obtain ⟨i, o, rfl, HK, HFO, HO, P1⟩ := hrel
    by_cases hlt : i < 2
    · have hdx : decide ((i : Int) < 2) = true := decide_eq_true (by omega)
      have hi0 : (0 : Int) ≤ (i : Int) := by omega
      have hib : wrap64 ((i : Int) + 1) = (i : Int) + 1 := by unfold wrap64; omega
      obtain ⟨sb, s, ht⟩ := HT.out i o HO.out hlt
      have T1 := Aside0.mk ht
      clear ht
      have hcell := blk_at P1.out.row T1.out.cell
      obtain ⟨w2, hrange, hpr, hg2, hs2⟩ := (PM_below T1.out.pm P1.out.below).range
      have P2 := Aside0.mk (P1.out.quiet hg2)
      have R2 := Aside0.mk hpr
      have HSB := Aside0.mk T1.out.pm.lt
      have HR := Aside0.mk (show w.heap.size ≤ wr.heap.size ∧ wr.heap.size ≠ w.heap.size ∧ wr.heap.size ≠ rb from ⟨P1.out.below.size, by have := P1.out.pm.lt; omega, by have := heap_lt P1.out.row; omega⟩)
      clear hpr hg2 hs2
      have HN := Aside0.mk P1.out.pm.nf
      clear P1
      go_wp2
      generalize wr.heap.size = r at R2 HR ⊢
      clear hrange hcell
      go_loopg [] s.length (fun kq w3 => ∃ (o2 : Po) (lf : Ex → Bool), Aside0 (PR w3 sb r s lf kq) ∧ Aside0 (Pl w w3 w.heap.size rb rc o2) ∧ Aside0 (Rnd (co o) (fun e => sumOver (at_ e) (gone s lf)) o2))
      case atStart => exact ⟨o, _, R2, P2, ⟨Rnd.start HN.out HFO.out (fun _ _ => rfl)⟩⟩
      case round =>
        clear R2 P2
        obtain ⟨o2, lf, R3, P3, N3⟩ := hrel
        rcases R3.out.next 0 with ⟨h0, hall, hrun⟩ | ⟨t, ht, w4, cnt2, hlf, hrun, hpr, hlt2, hg4, hs4, hen⟩
        · have HALL := Aside0.mk hall
          clear hall h0
          go_wp2
          go_roundg (2 - i - 1)
          case measure => have := HK.out; omega
          case rel =>
            refine ⟨i + 1, o2, by go_num, ⟨by have := HK.out; omega⟩, ⟨N3.out.fits⟩, ⟨?_⟩, P3⟩
            rcases T1.out.next o2 N3.out.nf (N3.out.done HALL.out) with h | h
            · exact .inr (.inl h)
            · exact .inr (.inr h)
        · have HTE := Aside0.mk (T1.out.nf.ex t ht)
          have R4 := Aside0.mk hpr
          have P4 := Aside0.mk (P3.out.iter hg4 HR.out.1 HR.out.2.1 HR.out.2.2)
          have HCN := Aside0.mk hlt2
          obtain ⟨bk, hbk⟩ : ∃ b, b = addOk o2 t := ⟨_, rfl⟩
          have HD := Aside0.mk (show ∀ w', PM w' w.heap.size o2 → Calls Try.prog 99 #[.map (some w.heap.size), vE t.1, .int .i64 t.2] w' (fun r w'' => r = .returned (.bool bk) ∧ PM w'' w.heap.size (ins o2 t) ∧ w'.grownBy w'' (some w.heap.size)) from fun w' hp => by
            rw [hbk]
            exact add_calls w.heap.size o2 t.1 t.2 w' hp (T1.out.nf.ex t ht) (T1.out.nf.nf.pos t ht) (by have := T1.out.nf.top t.1; rw [T1.out.nf.nf.co_mem ht] at this; exact this) (by have := N3.out.fits.2; omega) (N3.out.fits.1 t.1))
          have HSZ := Aside0.mk (show (cE t.1).size = 8 by rw [cE_size]; exact (T1.out.nf.ex t ht).1)
          have HONE := Aside0.mk (cE_one t.1)
          have HNX := Aside0.mk (fun hb : bk = true => N3.out.step T1.out.nf.nf ht hlf (hbk ▸ hb))
          have HBAD := Aside0.mk (fun hb : bk = false => N3.out.bad T1.out.nf.nf ht hlf (hbk ▸ hb) HFN.out T1.out.le)
          clear hpr hg4 hs4 hlt2 ht hlf hbk
          have P5 := Aside0.mk (P4.out.quiet (World.grownBy_alloc w4 (.cells (cE t.1) 81) none))
          have R5 := Aside0.mk (R4.out.kept (World.grownBy_alloc w4 (.cells (cE t.1) 81) none) (by simp) (by simp))
          have B5 := Aside0.mk (blk_new w4 (.cells (cE t.1) 81))
          unfold vE at *
          generalize hce : cE t.1 = ce at *
          generalize ht2 : t.2 = c at *
          clear hce ht2
          cases bk with
          | true =>
            go_wp2_with (first | ((with_reducible refine gate_alloc (t := 81) rfl ?_); refine alloc_zero rfl rfl (cE zeros8) zero81 ?_) | ((with_reducible refine gate_store (t := 81) (p := 9) rfl ?_); refine store_last rfl rfl rfl _ 81 _ ce (by rfl) (by rfl) rfl (by rw [HSZ.out]; kernel_rfl) (by rw [HSZ.out]; rfl) HONE.out ?_) | ((with_reducible refine gate_load (t := 81) (x := .tmp 9) rfl ?_); refine run_law (by rfl) (.agg ce) (load_run (ty := 81) (x := .tmp 9) (b := w4.heap.size) (t := 81) (cs := ce) ?h1 ?h2 B5.out ?h3 Try.underlying81 ?h4) ?_; (case h1 => rfl); (case h2 => rfl); (case h3 => rfl); (case h4 => rw [HSZ.out]; kernel_rfl)) | (go_at_call 99; refine (HD.out _ P5.out.pm).mono ?_; rintro e w6 ⟨rfl, hp6, hg6⟩; have P6 := Aside0.mk (P5.out.add hg6 hp6); have R6 := Aside0.mk (R5.out.kept hg6 (by have := HSB.out; intro h; injection h with h; omega) (by intro h; injection h with h; exact HR.out.2.1 h)); clear hp6 hg6))
            go_roundg cnt2
            case measure => exact HCN.out
            case rel => exact ⟨ins o2 t, _, R6, P6, ⟨HNX.out trivial⟩⟩
          | false =>
            go_wp2_with (first | ((with_reducible refine gate_alloc (t := 81) rfl ?_); refine alloc_zero rfl rfl (cE zeros8) zero81 ?_) | ((with_reducible refine gate_store (t := 81) (p := 9) rfl ?_); refine store_last rfl rfl rfl _ 81 _ ce (by rfl) (by rfl) rfl (by rw [HSZ.out]; kernel_rfl) (by rw [HSZ.out]; rfl) HONE.out ?_) | ((with_reducible refine gate_load (t := 81) (x := .tmp 9) rfl ?_); refine run_law (by rfl) (.agg ce) (load_run (ty := 81) (x := .tmp 9) (b := w4.heap.size) (t := 81) (cs := ce) ?h1 ?h2 B5.out ?h3 Try.underlying81 ?h4) ?_; (case h1 => rfl); (case h2 => rfl); (case h3 => rfl); (case h4 => rw [HSZ.out]; kernel_rfl)) | (go_at_call 99; refine (HD.out _ P5.out.pm).mono ?_; rintro e w6 ⟨rfl, hp6, hg6⟩; have P6 := Aside0.mk (P5.out.add hg6 hp6); clear hp6 hg6))
            go_ret2
            refine ⟨P6.out.below, .inr ⟨?_, rfl⟩⟩
            rcases HF.out with ⟨h, _⟩ | ⟨_, h⟩
            · exact absurd h (HBAD.out trivial)
            · exact h
    · have hdx : decide ((i : Int) < 2) = false := decide_eq_false (by omega)
      have HE := Aside0.mk (show o = F by
        rcases HO.out with ⟨h, _⟩ | ⟨h, _⟩ | ⟨_, h⟩
        · omega
        · omega
        · exact h)
      go_wp2
      go_ret2
      refine ⟨P1.out.below, .inl ⟨w.heap.size, F, ?_, rfl, by rw [← HE.out]; exact P1.out.pm⟩⟩
      rcases HF.out with ⟨_, h⟩ | ⟨h, _⟩
      · exact h
      · exact absurd (HE.out ▸ HFO.out) h
end
section
open Go.RowKit Go.Proofs.Ytlidibbdacohaaa.PRingEquals Go.Proofs.YtlidibbdacohaaaW.PrintWords Go.Proofs.YtlidibbdacohaaaW.PrintLast Go.Proofs.YtlidibbdacohaaaW.PrintMore
set_option linter.unusedVariables false
set_option linter.unusedSimpArgs false

theorem u64_w (n : Int) : IntKind.u64.wrap n = n % 18446744073709551616 := by simp [IntKind.wrap, IntKind.bits, IntKind.signed]
theorem and_low (n : Nat) (h : n < 18446744073709551616) : Go.bits .and .u64 (n : Int) 4294967295 = ((n % 4294967296 : Nat) : Int) := by
  have hn : n &&& 4294967295 = n % 4294967296 := Nat.and_two_pow_sub_one_eq_mod n 32
  have h1 : (BitVec.ofInt 64 (n : Int)).toNat = n := by
    rw [BitVec.ofInt_natCast, BitVec.toNat_ofNat]; exact Nat.mod_eq_of_lt (by omega)
  have h2 : (BitVec.ofInt 64 (4294967295 : Int)).toNat = 4294967295 := by decide
  show IntKind.u64.wrap ((BitVec.ofInt 64 (n : Int) &&& BitVec.ofInt 64 (4294967295 : Int)).toNat : Int) = _
  rw [BitVec.toNat_and, h1, h2, hn, u64_w]
  omega
theorem and_lowI {n : Int} (h0 : 0 ≤ n) (h : n < 18446744073709551616) : Go.bits .and .u64 n 4294967295 = n % 4294967296 := by
  obtain ⟨m, rfl⟩ : ∃ m : Nat, n = (m : Int) := ⟨n.toNat, by omega⟩
  rw [and_low m (by omega)]
  omega
theorem pos_mul {a b A B : Int} (ha : 0 ≤ a) (hb : 0 ≤ b) (hA : a ≤ A) (hB : b ≤ B) : 0 ≤ a * b ∧ a * b ≤ A * B :=
  ⟨Int.mul_nonneg ha hb, Int.mul_le_mul hA hB hb (by omega)⟩
/-- Two words of 32 bits each, multiplied. -/
theorem mul64_law {a b : Int} (ha : 0 ≤ a) (ha2 : a ≤ 1000000000000000) (hb : 0 ≤ b) (hb2 : b ≤ 1000000000000000) : ∃ hi lo, bits_Mul64.f a b = some (hi, lo) ∧ 0 ≤ hi ∧ 0 ≤ lo ∧ lo < 18446744073709551616 ∧ a * b = hi * 18446744073709551616 + lo := by
  unfold bits_Mul64.f
  rw [and_lowI ha (by omega), and_lowI hb (by omega)]
  obtain ⟨ah, hah⟩ : ∃ x, x = a / 4294967296 := ⟨_, rfl⟩
  obtain ⟨al, hal⟩ : ∃ x, x = a % 4294967296 := ⟨_, rfl⟩
  obtain ⟨bh, hbh⟩ : ∃ x, x = b / 4294967296 := ⟨_, rfl⟩
  obtain ⟨bl, hbl⟩ : ∃ x, x = b % 4294967296 := ⟨_, rfl⟩
  rw [← hah, ← hal, ← hbh, ← hbl]
  have qa : a = ah * 4294967296 + al := by omega
  have qb : b = bh * 4294967296 + bl := by omega
  have ra : 0 ≤ ah ∧ ah ≤ 232831 ∧ 0 ≤ al ∧ al ≤ 4294967295 := by omega
  have rb : 0 ≤ bh ∧ bh ≤ 232831 ∧ 0 ≤ bl ∧ bl ≤ 4294967295 := by omega
  have p00 := pos_mul ra.2.2.1 rb.2.2.1 ra.2.2.2 rb.2.2.2
  have p10 := pos_mul ra.1 rb.2.2.1 ra.2.1 rb.2.2.2
  have p01 := pos_mul ra.2.2.1 rb.1 ra.2.2.2 rb.2.1
  have p11 := pos_mul ra.1 rb.1 ra.2.1 rb.2.1
  have hab : a * b = (ah * bh) * 18446744073709551616 + (ah * bl + al * bh) * 4294967296 + al * bl := by
    rw [qa, qb, Int.add_mul, Int.mul_add, Int.mul_add]
    rw [show ah * 4294967296 * (bh * 4294967296) = (ah * bh) * 18446744073709551616 by rw [← Int.mul_assoc, Int.mul_assoc ah 4294967296 bh, Int.mul_comm 4294967296 bh, ← Int.mul_assoc, Int.mul_assoc (ah * bh) 4294967296 4294967296]; rfl]
    rw [show ah * 4294967296 * bl = ah * bl * 4294967296 by rw [Int.mul_assoc, Int.mul_comm 4294967296 bl, ← Int.mul_assoc]]
    rw [show al * (bh * 4294967296) = al * bh * 4294967296 by rw [← Int.mul_assoc]]
    omega
  rw [hab]
  clear hab qa qb hah hal hbh hbl ha ha2 hb hb2 ra rb
  generalize ah * bh = x11 at *
  generalize ah * bl = x10 at *
  generalize al * bh = x01 at *
  generalize al * bl = x00 at *
  simp only [u64_w]
  have e00 : x00 % 18446744073709551616 = x00 := by omega
  have e10 : x10 % 18446744073709551616 = x10 := by omega
  have e01 : x01 % 18446744073709551616 = x01 := by omega
  have e11 : x11 % 18446744073709551616 = x11 := by omega
  rw [e00, e10, e01, e11]
  obtain ⟨t, ht⟩ : ∃ t, t = x10 + x00 / 4294967296 := ⟨_, rfl⟩
  have et : (x10 + x00 / 4294967296) % 18446744073709551616 = t := by omega
  rw [et, and_lowI (by omega) (by omega)]
  refine ⟨_, _, rfl, by omega, by omega, by omega, by omega⟩
/-- What times answers. -/
theorem times_law {a b : Int} (ha : 0 < a) (ha2 : a ≤ 1000000000000000) (hb : 0 < b) (hb2 : b ≤ 1000000000000000) : ∃ n, ring_times.f a b = some (n, decide (a * b ≤ 1000000000000000)) ∧ (a * b ≤ 1000000000000000 → n = a * b) := by
  obtain ⟨hi, lo, h1, h2, h3, h4, h5⟩ := mul64_law (show 0 ≤ a by omega) ha2 (show 0 ≤ b by omega) hb2
  have e1 : IntKind.u64.wrap a = a := by rw [u64_w]; omega
  have e2 : IntKind.u64.wrap b = b := by rw [u64_w]; omega
  unfold ring_times.f
  rw [e1, e2, h1]
  simp only [Option.bind_some]
  rw [h5]
  by_cases h0 : hi = 0
  · rw [if_pos h0]
    refine ⟨wrap64 lo, ?_, fun h => ?_⟩
    · congr 2
      exact decide_eq_decide.2 (by omega)
    · simp only [wrap64]
      omega
  · rw [if_neg h0]
    refine ⟨wrap64 lo, ?_, fun h => by omega⟩
    congr 2
    exact (decide_eq_false (by omega)).symm
end
section
set_option linter.unusedVariables false
set_option linter.unusedSimpArgs false

/-- What a monomial times what is done of y gives at exponents. -/
def rowS (p : Ex × Int) (e : Ex) (l : Po) : Int := sumOver (fun q => at_ e (mulT p q)) l
theorem rowS_nonneg {p : Ex × Int} (hp : 0 < p.2) {y : Po} (hy : Pos y) (e : Ex) : ∀ q ∈ y, 0 ≤ at_ e (mulT p q) := fun q hq => by
  have := Int.mul_pos hp (hy q hq)
  unfold at_ mulT
  simp only
  split <;> omega
theorem sum_nonneg {g : Ex × Int → Int} : ∀ {l : Po}, (∀ t ∈ l, 0 ≤ g t) → 0 ≤ sumOver g l
  | [], _ => Int.le_refl 0
  | t :: l, h => by
    have h1 := h t (List.mem_cons_self ..)
    have h2 := sum_nonneg (l := l) (fun x hx => h x (List.mem_cons_of_mem _ hx))
    simp only [sumOver]
    omega
section
variable {z : Ex → Int} {p : Ex × Int} {y : Po} {lf : Ex → Bool} {o : Po}
theorem Row.start (ho : Nf o) (hf : Fits o) (h : ∀ t ∈ y, lf t.1 = true) : Rnd (co o) (fun e => rowS p e (gone y lf)) o :=
  ⟨ho, hf, fun e => by rw [gone_none h]; simp [rowS, sumOver]⟩
theorem Row.step (h : Rnd z (fun e => rowS p e (gone y lf)) o) (hy : Nf y) (hp : p.1.length = 8 ∧ 0 < p.2) {q : Ex × Int} (hq : q ∈ y) (hl : lf q.1 = true) (hok : addOk o (mulT p q) = true) : Rnd z (fun e => rowS p e (gone y (fun e => lf e && !decide (e = q.1)))) (ins o (mulT p q)) := by
  have hlen : (mulT p q).1.length = 8 := addE_len hp.1 (hy.len q hq)
  refine ⟨ins_nf hlen (Int.mul_pos hp.2 (hy.pos q hq)) h.nf, fits_step h.nf hlen h.fits hok, fun e => ?_⟩
  have h1 := gone_step hy hq hl (left' := fun e => lf e && !decide (e = q.1)) (fun _ => rfl) (fun q => at_ e (mulT p q))
  rw [ins_co hlen e h.nf, h.sum]
  unfold rowS
  rw [h1]
  unfold at_
  omega
theorem Row.bad (h : Rnd z (fun e => rowS p e (gone y lf)) o) (hy : Nf y) (hp : p.1.length = 8 ∧ 0 < p.2) {q : Ex × Int} (hq : q ∈ y) (hl : lf q.1 = true) (hok : addOk o (mulT p q) = false) {F : Po} (hF : Nf F) (hz : ∀ e, z e + rowS p e y ≤ co F e) : ¬ Fits F := fun hf => by
  have hlen : (mulT p q).1.length = 8 := addE_len hp.1 (hy.len q hq)
  refine fits_break h.nf hlen hok (fits_mono (ins_nf hlen (Int.mul_pos hp.2 (hy.pos q hq)) h.nf) hF (fun e => ?_) hf)
  have h1 := gone_step hy hq hl (left' := fun e => lf e && !decide (e = q.1)) (fun _ => rfl) (fun q => at_ e (mulT p q))
  have h2 := gone_le (l := y) (left := fun e => lf e && !decide (e = q.1)) (rowS_nonneg hp.2 hy.pos e)
  have h3 := hz e
  unfold rowS at h3
  rw [ins_co hlen e h.nf, h.sum]
  unfold rowS
  change z e + sumOver (fun q => at_ e (mulT p q)) (gone y lf) + at_ e (mulT p q) ≤ _
  omega
theorem Row.done (h : Rnd z (fun e => rowS p e (gone y lf)) o) (hl : ∀ t ∈ y, lf t.1 = false) : ∀ e, co o e = z e + rowS p e y := fun e => by
  rw [h.sum, gone_all hl]
end
/-- What is done of the outer round. -/
structure Ot (x y : Po) (lf : Ex → Bool) (o : Po) : Prop where
  nf : Nf o
  fits : Fits o
  sum : ∀ e, co o e = sumOver (fun p => rowS p e y) (gone x lf)
  told : ∀ p ∈ x, lf p.1 = false → ∀ q ∈ y, TermOk (mulT p q)
theorem prod_co {x y : Po} (hx : Nf x) (hy : Nf y) (e : Ex) : co (insAll [] (prodT x y)) e = sumOver (fun p => rowS p e y) x := by
  obtain ⟨h1, h2⟩ := prodT_ok hx hy
  rw [insAll_co h1 h2 e Nf.nil, co_at (prodT x y) e, prodT_sum]
  simp only [co, Int.zero_add]
  congr 1
  funext p
  rw [mulL_sum]
  rfl
theorem prod_nf {x y : Po} (hx : Nf x) (hy : Nf y) : Nf (insAll [] (prodT x y)) := by
  obtain ⟨h1, h2⟩ := prodT_ok hx hy
  exact insAll_nf h1 h2 Nf.nil
theorem row_pos {p : Ex × Int} {x y : Po} (hx : Nf x) (hy : Nf y) (e : Ex) : ∀ p ∈ x, 0 ≤ rowS p e y := fun p hp => sum_nonneg (rowS_nonneg (hx.pos p hp) hy.pos e)
theorem Ot.start {x y : Po} (hx : Nf x) {lf : Ex → Bool} (h : ∀ t ∈ x, lf t.1 = true) : Ot x y lf [] :=
  ⟨Nf.nil, ⟨fun e => by simp [co], by simp⟩, fun e => by rw [gone_none h]; rfl, fun p hp hl => by rw [h p hp] at hl; cases hl⟩
theorem Ot.le {x y : Po} (hx : Nf x) (hy : Nf y) {lf : Ex → Bool} {o : Po} (h : Ot x y lf o) {p : Ex × Int} (hp : p ∈ x) (hl : lf p.1 = true) (e : Ex) : co o e + rowS p e y ≤ co (insAll [] (prodT x y)) e := by
  have h1 := gone_step hx hp hl (left' := fun e => lf e && !decide (e = p.1)) (fun _ => rfl) (fun p => rowS p e y)
  have h2 := gone_le (l := x) (left := fun e => lf e && !decide (e = p.1)) (row_pos (p := p) hx hy e)
  rw [prod_co hx hy, h.sum]
  omega
theorem Ot.step {x y : Po} (hx : Nf x) {lf : Ex → Bool} {o o2 : Po} (h : Ot x y lf o) {p : Ex × Int} (hp : p ∈ x) (hl : lf p.1 = true) (ho : Nf o2) (hf : Fits o2) (hs : ∀ e, co o2 e = co o e + rowS p e y) (ht : ∀ q ∈ y, TermOk (mulT p q)) : Ot x y (fun e => lf e && !decide (e = p.1)) o2 := by
  refine ⟨ho, hf, fun e => ?_, fun p2 hp2 hl2 q hq => ?_⟩
  · rw [hs, h.sum, gone_step hx hp hl (fun _ => rfl)]
  · by_cases e1 : p2.1 = p.1
    · have e2 : p2 = p := by
        have a1 := hx.co_mem hp2
        have a2 := hx.co_mem hp
        rw [e1, a2] at a1
        exact Prod.ext e1 a1.symm
      rw [e2]
      exact ht q hq
    · refine h.told p2 hp2 ?_ q hq
      simpa [e1] using hl2
theorem Ot.done {x y : Po} (hx : Nf x) (hy : Nf y) {lf : Ex → Bool} {o : Po} (h : Ot x y lf o) (hl : ∀ t ∈ x, lf t.1 = false) : o = insAll [] (prodT x y) ∧ ∀ t ∈ prodT x y, TermOk t := by
  refine ⟨Nf.ext h.nf (prod_nf hx hy) (fun e => by rw [h.sum, gone_all hl, prod_co hx hy]), fun t ht => ?_⟩
  obtain ⟨p, hp, q, hq, rfl⟩ := prodT_mem.1 ht
  exact h.told p hp (hl p hp) q hq
theorem mulF_cases {x y : Po} (hx : NfE x) (hy : NfE y) : ((∀ t ∈ prodT x y, TermOk t) ∧ Fits (insAll [] (prodT x y)) ∧ mulF x y = some (insAll [] (prodT x y))) ∨ (¬ ((∀ t ∈ prodT x y, TermOk t) ∧ Fits (insAll [] (prodT x y))) ∧ mulF x y = none) := by
  obtain ⟨h1, h2⟩ := prodT_ok hx.nf hy.nf
  unfold mulF few
  rw [allM_eq]
  by_cases hk : ∀ t ∈ prodT x y, TermOk t
  · rw [if_pos hk]
    rcases intoAll_law h1 h2 Nf.nil top_nil with ⟨q1, q2⟩ | ⟨q1, q2⟩
    · rw [q2]
      simp only [Option.bind_some]
      by_cases h3 : (insAll [] (prodT x y)).length ≤ 200
      · exact .inl ⟨hk, ⟨q1, h3⟩, if_pos h3⟩
      · exact .inr ⟨fun h => h3 h.2.2, if_neg h3⟩
    · rw [q2]
      exact .inr ⟨fun h => q1 h.2.1, rfl⟩
  · rw [if_neg hk]
    exact .inr ⟨fun h => hk h.1, rfl⟩
/-- The exponents of a product while they are filled in. -/
def ex3 (a : Ex) (i : Nat) : Ex := a.take i ++ List.replicate (8 - i) 0
theorem ex3_len {a : Ex} (ha : a.length = 8) {i : Nat} (hi : i ≤ 8) : (ex3 a i).length = 8 := by simp [ex3, ha]; omega
theorem ex3_zero (a : Ex) : ex3 a 0 = zeros8 := by simp [ex3, zeros8]
theorem ex3_all {a : Ex} (ha : a.length = 8) : ex3 a 8 = a := by
  unfold ex3
  rw [List.take_of_length_le (by omega)]
  simp
theorem ex3_set {a : Ex} (ha : a.length = 8) {i : Nat} (hi : i < 8) : (ex3 a i).set i (a.getD i 0) = ex3 a (i + 1) := by
  match a, ha with
  | [x0, x1, x2, x3, x4, x5, x6, x7], _ =>
    have : i = 0 ∨ i = 1 ∨ i = 2 ∨ i = 3 ∨ i = 4 ∨ i = 5 ∨ i = 6 ∨ i = 7 := by omega
    rcases this with rfl | rfl | rfl | rfl | rfl | rfl | rfl | rfl <;> rfl
theorem ex3_at {a : Ex} (ha : a.length = 8) {i : Nat} (hi : i < 8) : (ex3 a (i + 1)).getD i 0 = a.getD i 0 := by
  match a, ha with
  | [x0, x1, x2, x3, x4, x5, x6, x7], _ =>
    have : i = 0 ∨ i = 1 ∨ i = 2 ∨ i = 3 ∨ i = 4 ∨ i = 5 ∨ i = 6 ∨ i = 7 := by omega
    rcases this with rfl | rfl | rfl | rfl | rfl | rfl | rfl | rfl <;> rfl
theorem addE_getD {a b : Ex} (ha : a.length = 8) (hb : b.length = 8) {i : Nat} (hi : i < 8) : (addE a b).getD i 0 = a.getD i 0 + b.getD i 0 := by
  have h := addE_get ha hb hi
  rw [List.getD_eq_getElem?_getD, List.getElem?_eq_getElem (by rw [addE_len ha hb]; exact hi), List.getD_eq_getElem?_getD, List.getElem?_eq_getElem (by omega), List.getD_eq_getElem?_getD, List.getElem?_eq_getElem (by omega)]
  exact h
theorem ex_getD {a : Ex} (ha : ExOk a) {i : Nat} (hi : i < 8) : 0 ≤ a.getD i 0 ∧ a.getD i 0 ≤ 60 := by
  have hl := ha.1
  rw [List.getD_eq_getElem?_getD, List.getElem?_eq_getElem (by omega)]
  exact ha.2 _ (List.getElem_mem _)
theorem all8 {a : Ex} (ha : a.length = 8) {P : Int → Prop} (h : ∀ j < 8, P (a.getD j 0)) : ∀ n ∈ a, P n := fun n hn => by
  obtain ⟨i, hi, rfl⟩ := List.getElem_of_mem hn
  have := h i (by omega)
  rw [List.getD_eq_getElem?_getD, List.getElem?_eq_getElem hi] at this
  exact this
end
section
open Go.RowKit Go.Maps Go.ChangeShapes Go.WideShapes Go.MapKept Go.ChangeMaps Go.WideElems Go.Proofs.Ytlidibbdacohaaa.PRingEquals Go.Proofs.YtlidibbdacohaaaW.PrintWords Go.Proofs.YtlidibbdacohaaaW.PrintLast Go.Proofs.YtlidibbdacohaaaW.PrintMore
set_option linter.unusedVariables false
set_option linter.unusedSimpArgs false

/-- The outer round's memory. -/
structure Al (w W : World) (ob : Nat) (o : Po) (ba rx : Nat) (x : Po) (lfx : Ex → Bool) (cx : Nat) : Prop where
  below : Below w.heap.size w W
  pm : PM W ob o
  ge : w.heap.size ≤ ob
  ix : PR W ba rx x lfx cx
  na : ba < w.heap.size
  nx : w.heap.size ≤ rx
  nxo : rx ≠ ob
/-- The inner round's. -/
structure Ai (w W : World) (ob rx bb ry : Nat) (y : Po) (lfy : Ex → Bool) (cy b7 : Nat) (c7 : Array Value) : Prop where
  iy : PR W bb ry y lfy cy
  nb : bb < w.heap.size
  ny : w.heap.size ≤ ry
  nyo : ry ≠ ob
  nyx : ry ≠ rx
  s7 : W.heap[b7]? = some (.cells c7 81 (0, 0))
  n7 : w.heap.size ≤ b7
  n7o : b7 ≠ ob
  n7x : b7 ≠ rx
  n7y : b7 ≠ ry
section
variable {w W W2 : World} {ob ba rx bb ry cx cy b7 r : Nat} {o o2 x y : Po} {lfx lfy : Ex → Bool} {c7 : Array Value}
theorem some_ne {a b : Nat} (h : a ≠ b) : some a ≠ some b := fun e => h (Option.some.inj e)
theorem Al.step (h : Al w W ob o ba rx x lfx cx) (hg : W.grownBy W2 (some r)) (h1 : w.heap.size ≤ r) (h2 : r ≠ ob) (h3 : r ≠ rx) : Al w W2 ob o ba rx x lfx cx :=
  ⟨h.below.grown hg h.below.size (fun k e => by injection e with e; omega), h.pm.kept hg (some_ne (Ne.symm h2)), h.ge, h.ix.kept hg (some_ne (by have := h.na; omega)) (some_ne (Ne.symm h3)), h.na, h.nx, h.nxo⟩
theorem Al.quiet (h : Al w W ob o ba rx x lfx cx) (hg : W.grownBy W2 none) : Al w W2 ob o ba rx x lfx cx :=
  ⟨h.below.grown hg h.below.size (fun k e => by cases e), h.pm.kept hg (by simp), h.ge, h.ix.kept hg (by simp) (by simp), h.na, h.nx, h.nxo⟩
theorem Al.add (h : Al w W ob o ba rx x lfx cx) (hg : W.grownBy W2 (some ob)) (hp : PM W2 ob o2) : Al w W2 ob o2 ba rx x lfx cx :=
  ⟨h.below.grown hg h.below.size (fun k e => by injection e with e; have := h.ge; omega), hp, h.ge, h.ix.kept hg (some_ne (by have := h.na; have := h.ge; omega)) (some_ne h.nxo), h.na, h.nx, h.nxo⟩
theorem Ai.step (h : Ai w W ob rx bb ry y lfy cy b7 c7) (hg : W.grownBy W2 (some r)) (h1 : w.heap.size ≤ r) (h2 : r ≠ ry) (h3 : r ≠ b7) : Ai w W2 ob rx bb ry y lfy cy b7 c7 :=
  ⟨h.iy.kept hg (some_ne (by have := h.nb; omega)) (some_ne (Ne.symm h2)), h.nb, h.ny, h.nyo, h.nyx, (hg.block b7 (heap_lt h.s7) (some_ne (Ne.symm h3))).trans h.s7, h.n7, h.n7o, h.n7x, h.n7y⟩
theorem Ai.quiet (h : Ai w W ob rx bb ry y lfy cy b7 c7) (hg : W.grownBy W2 none) : Ai w W2 ob rx bb ry y lfy cy b7 c7 :=
  ⟨h.iy.kept hg (by simp) (by simp), h.nb, h.ny, h.nyo, h.nyx, (hg.block b7 (heap_lt h.s7) (by simp)).trans h.s7, h.n7, h.n7o, h.n7x, h.n7y⟩
end
theorem grown_setCell (W : World) (b k : Nat) (v : Value) : W.grownBy (W.setCell ⟨b, k, none⟩ v) (some b) :=
  ⟨rfl, rfl, rfl, by simp [World.setCell], fun i _ hi => Below.heap_setCell W ⟨b, k, none⟩ v i (fun e => hi (by rw [e]))⟩
theorem grown_drewN (W : World) (n : Nat) : W.grownBy (W.drewN n) none := ⟨rfl, rfl, rfl, Nat.le_refl _, fun _ _ _ => rfl⟩
theorem cE_at {e : Ex} (he : e.length = 8) {i : Nat} (hi : i < 8) : (cE e)[i]? = some (.int .i64 (e.getD i 0)) := by
  unfold cE
  rw [List.getElem?_toArray, List.getElem?_map, List.getElem?_eq_getElem (by omega), List.getD_eq_getElem?_getD, List.getElem?_eq_getElem (by omega)]
  rfl
theorem cE_set (e : Ex) (i : Nat) (n : Int) : (cE e).setIfInBounds i (.int .i64 n) = cE (e.set i n) := by
  unfold cE
  simp [List.setIfInBounds_toArray, List.map_set]
theorem heap_set_ (W : World) (b k : Nat) (v : Value) (c : Array Value) (t : TypeId) (h : W.heap[b]? = some (.cells c t (0, 0))) : (W.setCell ⟨b, k, none⟩ v).heap[b]? = some (.cells (c.setIfInBounds k v) t (0, 0)) := by
  simp [World.setCell, Array.getElem?_modify, h]
set_option maxRecDepth 100000 in
set_option maxHeartbeats 8000000 in
theorem product_calls (ba bb : Nat) (x y : Po) (w : World) (hA : PM w ba x) (hB : PM w bb y) (hx : NfE x) (hy : NfE y) :
    Calls Try.prog 81 #[.map (some ba), .map (some bb)] w fun r w' => Below w.heap.size w w' ∧ ((∃ ob l, mulF x y = some l ∧ r = .returned (.tuple #[.map (some ob), .bool true]) ∧ PM w' ob l) ∨ (mulF x y = none ∧ r = .returned (.tuple #[.map none, .bool false]))) := by
  have hmm := @run_makeMap Try.prog
  have HA := Aside0.mk hA.lt
  have HB := Aside0.mk hB
  have HX := Aside0.mk hx
  have HY := Aside0.mk hy
  have HF := Aside0.mk (mulF_cases hx hy)
  have hsz : (w.alloc (.map #[] 0)).heap.size = w.heap.size + 1 := World.size_alloc _ _
  obtain ⟨w2, hrange, hpr, hg2, hs2⟩ := (hA.kept (World.grownBy_alloc w (.map #[] 0) none) (by simp)).range
  rw [hsz] at hrange hpr
  have A2 := Aside0.mk (show Al w w2 w.heap.size [] ba (w.heap.size + 1) x (fun _ => true) x.length from
    ⟨(below_alloc (Below.refl _ _) _).grown hg2 (by rw [hsz]; omega) (fun k e => by cases e), (PM.new w).kept hg2 (by simp), Nat.le_refl _, hpr, hA.lt, by omega, by omega⟩)
  clear hA hB hx hy hpr hg2 hs2 hsz
  go_enter Try.func81, Try.ntmps81
  go_wp2
  clear hrange
  generalize w.heap.size + 1 = rx at A2 ⊢
  go_loopg [] x.length (fun kq w3 => ∃ (o : Po) (lfx : Ex → Bool), Aside0 (Al w w3 w.heap.size o ba rx x lfx kq) ∧ Aside0 (Ot x y lfx o))
  case atStart => exact ⟨[], _, A2, ⟨Ot.start HX.out.nf (fun _ _ => rfl)⟩⟩
  case round =>
    clear A2
    obtain ⟨o, lfx, A3, O3⟩ := hrel
    rcases A3.out.ix.next 0 with ⟨h0, hall, hrun⟩ | ⟨p, hp, w4, cx, hlf, hrun, hpr, hlt2, hg4, hs4, hen⟩
    · have HE := Aside0.mk (O3.out.done HX.out.nf HY.out.nf hall)
      clear hall h0
      go_wp2
      go_ret2
      obtain ⟨e1, e2⟩ := HE.out
      refine ⟨A3.out.below, .inl ⟨w.heap.size, o, ?_, rfl, A3.out.pm⟩⟩
      rcases HF.out with ⟨_, _, h⟩ | ⟨h, _⟩
      · rw [e1]; exact h
      · exact absurd ⟨e2, e1 ▸ O3.out.fits⟩ h
    · have HPX := Aside0.mk (HX.out.ex p hp)
      have HPC := Aside0.mk (show 0 < p.2 ∧ p.2 ≤ 1000000000000000 from ⟨HX.out.nf.pos p hp, by have := HX.out.top p.1; rw [HX.out.nf.co_mem hp] at this; exact this⟩)
      have HCX := Aside0.mk hlt2
      have HLE := Aside0.mk (O3.out.le HX.out.nf HY.out.nf hp hlf)
      have HNO := Aside0.mk (fun o2 (ho : Nf o2) (hf : Fits o2) hs ht => O3.out.step HX.out.nf hp hlf ho hf hs ht)
      have HNF := Aside0.mk O3.out.nf
      have HFT := Aside0.mk O3.out.fits
      have HIN := Aside0.mk hp
      have A4 := Aside0.mk (show Al w w4 w.heap.size o ba rx x (fun e => lfx e && !decide (e = p.1)) cx from
        ⟨A3.out.below.grown hg4 A3.out.below.size (fun k e => by injection e with e; have := A3.out.nx; omega), A3.out.pm.kept hg4 (some_ne (Ne.symm A3.out.nxo)), A3.out.ge, hpr, A3.out.na, A3.out.nx, A3.out.nxo⟩)
      have HP8 := Aside0.mk (show (cE p.1).size = 8 by rw [cE_size]; exact HPX.out.1)
      have HP1 := Aside0.mk (cE_one p.1)
      have A5 := Aside0.mk (A4.out.quiet (World.grownBy_alloc w4 (.cells (cE p.1) 81) none))
      have hsz : (w4.alloc (.cells (cE p.1) 81)).heap.size = w4.heap.size + 1 := World.size_alloc _ _
      obtain ⟨w6, hrange, hpr6, hg6, hs6⟩ := (PM_below HB.out A5.out.below).range
      rw [hsz] at hrange hpr6
      have A6 := Aside0.mk (A5.out.quiet hg6)
      have I6 := Aside0.mk (show Ai w w6 w.heap.size rx bb (w4.heap.size + 1) y (fun _ => true) y.length w4.heap.size (cE p.1) from
        ⟨hpr6, HB.out.lt, by have := A4.out.below.size; omega, by have := A4.out.pm.lt; omega, by have := A4.out.ix.lt; omega, (hg6.block _ (by rw [hsz]; omega) (by simp)).trans (blk_new w4 (.cells (cE p.1) 81)), A4.out.below.size, by have := A4.out.pm.lt; omega, by have := A4.out.ix.lt; omega, by omega⟩)
      clear hlt2 hpr hg4 hs4 hlf hp A3 A4 A5 O3 hpr6 hg6 hs6 hsz
      unfold vE at *
      generalize hcp : cE p.1 = cp at *
      have HCP := Aside0.mk hcp
      clear hcp
      generalize hp2 : p.2 = c at *
      have HP2 := Aside0.mk hp2
      clear hp2
      go_wp2_with (first | ((with_reducible refine gate_alloc (t := 81) rfl ?_); refine alloc_zero rfl rfl (cE zeros8) zero81 ?_) | ((with_reducible refine gate_store (t := 81) (p := 7) rfl ?_); refine store_last rfl rfl rfl _ 81 _ cp (by rfl) (by rfl) rfl (by rw [HP8.out]; kernel_rfl) (by rw [HP8.out]; rfl) HP1.out ?_))
      clear hrange hrun hen
      generalize w4.heap.size + 1 = ry at I6 ⊢
      generalize w4.heap.size = b7 at I6 ⊢
      go_loopg [] y.length (fun kq w7 => ∃ (o2 : Po) (lfy : Ex → Bool), Aside0 (Al w w7 w.heap.size o2 ba rx x (fun e => lfx e && !decide (e = p.1)) cx) ∧ Aside0 (Ai w w7 w.heap.size rx bb ry y lfy kq b7 cp) ∧ Aside0 (Rnd (co o) (fun e => rowS p e (gone y lfy)) o2) ∧ Aside0 (∀ q ∈ y, lfy q.1 = false → TermOk (mulT p q)))
      case atStart => exact ⟨o, _, A6, I6, ⟨Row.start HNF.out HFT.out (fun _ _ => rfl)⟩, ⟨fun q hq h => by cases h⟩⟩
      case round =>
        clear A6 I6
        obtain ⟨o2, lfy, A7, I7, N7, T7⟩ := hrel
        rcases I7.out.iy.next 0 with ⟨h0, hall, hrun⟩ | ⟨q, hq, w8, cy, hlf, hrun, hpr, hlt2, hg8, hs8, hen⟩
        · have HE := Aside0.mk (HNO.out o2 N7.out.nf N7.out.fits (Row.done N7.out hall) (fun q hq => T7.out q hq (hall q hq)))
          clear hall h0
          go_wp2
          go_roundg cx
          case measure => exact HCX.out
          case rel => exact ⟨o2, _, A7, HE⟩
        · have HQX := Aside0.mk (HY.out.ex q hq)
          have HQC := Aside0.mk (show 0 < q.2 ∧ q.2 ≤ 1000000000000000 from ⟨HY.out.nf.pos q hq, by have := HY.out.top q.1; rw [HY.out.nf.co_mem hq] at this; exact this⟩)
          have HCY := Aside0.mk hlt2
          have HNX := Aside0.mk (fun hb => Row.step N7.out HY.out.nf ⟨HPX.out.1, by rw [HP2.out]; exact HPC.out.1⟩ hq hlf hb)
          have HBAD := Aside0.mk (fun hb => Row.bad N7.out HY.out.nf ⟨HPX.out.1, by rw [HP2.out]; exact HPC.out.1⟩ hq hlf hb (prod_nf HX.out.nf HY.out.nf) HLE.out)
          have HTN := Aside0.mk (fun (h : TermOk (mulT p q)) => show ∀ q2 ∈ y, (lfy q2.1 && !decide (q2.1 = q.1)) = false → TermOk (mulT p q2) from fun q2 hq2 hl2 => by
            by_cases e1 : q2.1 = q.1
            · have e2 : q2 = q := by
                have a1 := HY.out.nf.co_mem hq2
                have a2 := HY.out.nf.co_mem hq
                rw [e1, a2] at a1
                exact Prod.ext e1 a1.symm
              rw [e2]
              exact h
            · exact T7.out q2 hq2 (by simpa [e1] using hl2))
          have HNT := Aside0.mk (fun (h : ¬ TermOk (mulT p q)) => show mulF x y = none from by
            rcases HF.out with ⟨h1, _⟩ | ⟨_, h1⟩
            · exact absurd (h1 _ (prodT_mem.2 ⟨p, HIN.out, q, hq, rfl⟩)) h
            · exact h1)
          have HFO := Aside0.mk N7.out.fits
          have HQ8 := Aside0.mk (show (cE q.1).size = 8 by rw [cE_size]; exact HQX.out.1)
          have HQ1 := Aside0.mk (cE_one q.1)
          have A8 := Aside0.mk (A7.out.step hg8 I7.out.ny I7.out.nyo I7.out.nyx)
          have I8 := Aside0.mk (show Ai w w8 w.heap.size rx bb ry y (fun e => lfy e && !decide (e = q.1)) cy b7 cp from
            ⟨hpr, I7.out.nb, I7.out.ny, I7.out.nyo, I7.out.nyx, (hg8.block b7 (heap_lt I7.out.s7) (some_ne I7.out.n7y)).trans I7.out.s7, I7.out.n7, I7.out.n7o, I7.out.n7x, I7.out.n7y⟩)
          have hsz : (w8.alloc (.cells (cE q.1) 81)).heap.size = w8.heap.size + 1 := World.size_alloc _ _
          have g9 := World.grownBy_alloc w8 (.cells (cE q.1) 81) none
          have g10 := World.grownBy_alloc (w8.alloc (.cells (cE q.1) 81)) (.cells (cE zeros8) 81) none
          have A10 := Aside0.mk ((A8.out.quiet g9).quiet g10)
          have I10 := Aside0.mk ((I8.out.quiet g9).quiet g10)
          have S9 := Aside0.mk ((g10.block w8.heap.size (by rw [hsz]; omega) (by simp)).trans (blk_new w8 (.cells (cE q.1) 81)))
          have S11 := Aside0.mk (show ((w8.alloc (.cells (cE q.1) 81)).alloc (.cells (cE zeros8) 81)).heap[w8.heap.size + 1]? = some (.cells (cE zeros8) 81 (0, 0)) from by
            have := blk_new (w8.alloc (.cells (cE q.1) 81)) (.cells (cE zeros8) 81)
            rw [hsz] at this
            exact this)
          have HD := Aside0.mk (show w.heap.size ≤ w8.heap.size ∧ w8.heap.size ≠ w.heap.size ∧ w8.heap.size + 1 ≠ w.heap.size ∧ w8.heap.size + 1 ≠ rx ∧ w8.heap.size + 1 ≠ ry ∧ w8.heap.size + 1 ≠ b7 ∧ w8.heap.size + 1 ≠ w8.heap.size ∧ w.heap.size ≤ w8.heap.size + 1 from by
            have h1 := A8.out.below.size
            have h2 := A8.out.pm.lt
            have h3 := A8.out.ix.lt
            have h4 := I8.out.iy.lt
            have h5 := heap_lt I8.out.s7
            refine ⟨h1, ?_, ?_, ?_, ?_, ?_, ?_, ?_⟩ <;> omega)
          clear hlt2 hpr hg8 hs8 hlf hq A7 I7 N7 T7 A8 I8 hsz g9 g10
          unfold vE at *
          obtain ⟨ae, hae⟩ : ∃ ae, ae = addE p.1 q.1 := ⟨_, rfl⟩
          have HA8 := Aside0.mk (show ae.length = 8 by rw [hae]; exact addE_len HPX.out.1 HQX.out.1)
          have HAG := Aside0.mk (show ∀ i < 8, ae.getD i 0 = p.1.getD i 0 + q.1.getD i 0 from fun i hi => by rw [hae]; exact addE_getD HPX.out.1 HQX.out.1 hi)
          have HAT := Aside0.mk (show (mulT p q).1 = ae from hae.symm)
          clear hae
          generalize hcq : cE q.1 = cq at *
          have HCQ := Aside0.mk hcq
          clear hcq
          generalize hq2 : q.2 = d at *
          have HQ2 := Aside0.mk hq2
          clear hq2
          go_wp2_with (first | ((with_reducible refine gate_alloc (t := 81) rfl ?_); refine alloc_zero rfl rfl (cE zeros8) zero81 ?_) | ((with_reducible refine gate_store (t := 81) (p := 9) rfl ?_); refine store_last rfl rfl rfl _ 81 _ cq (by rfl) (by rfl) rfl (by rw [HQ8.out]; kernel_rfl) (by rw [HQ8.out]; rfl) HQ1.out ?_))
          clear hrun hen
          generalize ((w8.alloc (.cells cq 81)).alloc (.cells (cE zeros8) 81)) = w10 at A10 I10 S9 S11 ⊢
          generalize w8.heap.size + 1 = b11 at S11 HD ⊢
          generalize w8.heap.size = b9 at S9 HD ⊢
          go_loopg [30] 8 (fun kq v30 w11 => ∃ (i : Nat), v30 = .int .i64 (i : Int) ∧ Aside0 (kq + i = 8) ∧ Aside0 (Al w w11 w.heap.size o2 ba rx x (fun e => lfx e && !decide (e = p.1)) cx) ∧ Aside0 (Ai w w11 w.heap.size rx bb ry y (fun e => lfy e && !decide (e = q.1)) cy b7 cp) ∧ Aside0 (w11.heap[b9]? = some (.cells cq 81 (0, 0))) ∧ Aside0 (w11.heap[b11]? = some (.cells (cE (ex3 ae i)) 81 (0, 0))) ∧ Aside0 (∀ j < i, ae.getD j 0 ≤ 60))
          case atStart => exact ⟨0, rfl, ⟨rfl⟩, A10, I10, S9, ⟨by rw [ex3_zero]; exact S11.out⟩, ⟨fun j hj => by omega⟩⟩
          case round =>
            clear A10 I10 S9 S11
            obtain ⟨i, rfl, HK, A11, I11, S9, S11, L11⟩ := hrel
            by_cases hlt : i < 8
            · have hdx : decide ((i : Int) < 8) = true := decide_eq_true (by omega)
              have hi0 : (0 : Int) ≤ (i : Int) := by omega
              have hi8 : (i : Int) < 8 := by omega
              have hib : wrap64 ((i : Int) + 1) = (i : Int) + 1 := by unfold wrap64; omega
              have q7 := blk_at I11.out.s7 (by rw [← HCP.out]; exact cE_at HPX.out.1 hlt)
              have q9 := blk_at S9.out (by rw [← HCQ.out]; exact cE_at HQX.out.1 hlt)
              have q11 := blk_at S11.out (cE_at (ex3_len HA8.out (by omega)) hlt)
              have f11 := blk_fro (k := i) S11.out
              have HPI := Aside0.mk (ex_getD HPX.out hlt)
              have HQI := Aside0.mk (ex_getD HQX.out hlt)
              have HAI := Aside0.mk (HAG.out i hlt)
              have hwr : wrap64 (p.1.getD i 0 + q.1.getD i 0) = ae.getD i 0 := by have h1 := HPI.out; have h2 := HQI.out; rw [HAI.out]; unfold wrap64; omega
              have HST := Aside0.mk (show (cE (ex3 ae i)).setIfInBounds i (.int .i64 (ae.getD i 0)) = cE (ex3 ae (i + 1)) by rw [cE_set, ex3_set HA8.out hlt])
              have HE3 := Aside0.mk (ex3_at HA8.out hlt)
              have HL2 := Aside0.mk (fun (h : ae.getD i 0 ≤ 60) => show ∀ j < i + 1, ae.getD j 0 ≤ 60 from fun j hj => by
                by_cases e : j = i
                · rw [e]; exact h
                · exact L11.out j (by omega))
              have HBG := Aside0.mk (fun (h : ¬ ae.getD i 0 ≤ 60) => HNT.out (fun ht => h (by
                have h1 := ht.1 (ae.getD i 0) (by rw [HAT.out, List.getD_eq_getElem?_getD, List.getElem?_eq_getElem (by have := HA8.out; omega)]; exact List.getElem_mem _)
                exact h1)))
              generalize ae.getD i 0 = ai at *
              generalize p.1.getD i 0 = pi at *
              generalize q.1.getD i 0 = qi at *
              go_wp2
              go_region
              clear q7 q9 q11 f11 hwr
              have gs := grown_drew (grown_setCell wr b11 i (.int .i64 ai))
              have A12 := Aside0.mk (A11.out.step gs HD.out.2.2.2.2.2.2.2 HD.out.2.2.1 HD.out.2.2.2.1)
              have I12 := Aside0.mk (I11.out.step gs HD.out.2.2.2.2.2.2.2 HD.out.2.2.2.2.1 HD.out.2.2.2.2.2.1)
              have S9' := Aside0.mk ((gs.block b9 (heap_lt S9.out) (some_ne (Ne.symm HD.out.2.2.2.2.2.2.1))).trans S9.out)
              have S12 := Aside0.mk (show (wr.setCell ⟨b11, i, none⟩ (.int .i64 ai)).drew.heap[b11]? = some (.cells (cE (ex3 ae (i + 1))) 81 (0, 0)) from by rw [← HST.out]; exact heap_set_ wr b11 i (.int .i64 ai) _ 81 S11.out)
              have q13 := blk_at S12.out (cE_at (ex3_len HA8.out (by omega)) hlt)
              rw [HE3.out] at q13
              clear A11 I11 S9 S11 gs
              generalize (wr.setCell ⟨b11, i, none⟩ (.int .i64 ai)).drew = W2 at *
              by_cases h60 : ai ≤ 60
              · have hd60 : decide (60 < ai) = false := decide_eq_false (by omega)
                have hd61 : decide (ai > 60) = false := decide_eq_false (by omega)
                go_wp2
                go_roundg (8 - i - 1)
                case measure => have := HK.out; omega
                case rel => exact ⟨i + 1, by go_num, ⟨by have := HK.out; omega⟩, A12, I12, S9', S12, ⟨HL2.out h60⟩⟩
              · have hd60 : decide (60 < ai) = true := decide_eq_true (by omega)
                have hd61 : decide (ai > 60) = true := decide_eq_true (by omega)
                go_wp2
                go_ret2
                exact ⟨A12.out.below, .inr ⟨HBG.out h60, rfl⟩⟩
            · have hdx : decide ((i : Int) < 8) = false := decide_eq_false (by omega)
              have hi8 : i = 8 := by have := HK.out; omega
              subst hi8
              rw [ex3_all HA8.out] at S11
              have HM2 := Aside0.mk (show (mulT p q).2 = c * d by rw [← HP2.out, ← HQ2.out]; rfl)
              have HM0 := Aside0.mk (show 0 < c * d from Int.mul_pos HPC.out.1 HQC.out.1)
              obtain ⟨n, ht, hn⟩ := times_law HPC.out.1 HPC.out.2 HQC.out.1 HQC.out.2
              by_cases hT : c * d ≤ 1000000000000000
              · have hn2 := hn hT
                rw [decide_eq_true hT] at ht
                have HTK := Aside0.mk (show TermOk (mulT p q) from ⟨by rw [HAT.out]; exact all8 HA8.out L11.out, by rw [HM2.out]; exact hT⟩)
                have HAE := Aside0.mk (show ExOk ae from ⟨HA8.out, all8 HA8.out (fun j hj => ⟨by rw [HAG.out j hj]; have := ex_getD HPX.out hj; have := ex_getD HQX.out hj; omega, L11.out j hj⟩)⟩)
                have HT := Aside0.mk ht
                clear ht hn
                have HMT := Aside0.mk (show mulT p q = (ae, n) by rw [hn2, ← HM2.out, ← HAT.out])
                have HN0 := Aside0.mk (show 0 < n ∧ n ≤ 1000000000000000 by rw [hn2]; exact ⟨HM0.out, hT⟩)
                clear hn2 hT
                obtain ⟨bk, hbk⟩ : ∃ b, b = addOk o2 (mulT p q) := ⟨_, rfl⟩
                have HDD := Aside0.mk (show ∀ w', PM w' w.heap.size o2 → Calls Try.prog 99 #[.map (some w.heap.size), vE ae, .int .i64 n] w' (fun r w'' => r = .returned (.bool bk) ∧ PM w'' w.heap.size (ins o2 (mulT p q)) ∧ w'.grownBy w'' (some w.heap.size)) from fun w' hp => by
                  rw [hbk, HMT.out]
                  exact add_calls w.heap.size o2 ae n w' hp HAE.out HN0.out.1 HN0.out.2 (by have := HFO.out.2; omega) (HFO.out.1 ae))
                have HNX2 := Aside0.mk (fun hb : bk = true => HNX.out (hbk ▸ hb))
                have HBAD2 := Aside0.mk (fun hb : bk = false => HBAD.out (hbk ▸ hb))
                have HE8 := Aside0.mk (show (cE ae).size = 8 by rw [cE_size]; exact HA8.out)
                clear hbk
                unfold vE at *
                generalize hca : cE ae = ca at *
                clear hca
                cases bk with
                | true =>
                  go_wp2_with (first | (go_at_call 101; refine (ring_times.calls c d n true _ HT.out).mono ?_; rintro e w12 ⟨rfl, ⟨nd, rfl⟩⟩; have A12 := Aside0.mk (A11.out.quiet (grown_drewN wr nd)); have I12 := Aside0.mk (I11.out.quiet (grown_drewN wr nd)); have S12 := Aside0.mk (show (wr.drewN nd).heap[b11]? = some (.cells ca 81 (0, 0)) from S11.out)) | ((with_reducible refine gate_load (t := 81) (x := .tmp 11) rfl ?_); refine run_law (by rfl) (.agg ca) (load_run (ty := 81) (x := .tmp 11) (b := b11) (t := 81) (cs := ca) ?h1 ?h2 S12.out ?h3 Try.underlying81 ?h4) ?_; (case h1 => rfl); (case h2 => rfl); (case h3 => rfl); (case h4 => rw [HE8.out]; kernel_rfl)))
                  refine (HDD.out _ A12.out.pm).mono ?_
                  rintro e w13 ⟨rfl, hp13, hg13⟩
                  have A13 := Aside0.mk (A12.out.add hg13 hp13)
                  have I13 := Aside0.mk (I12.out.step hg13 A12.out.ge (Ne.symm I12.out.nyo) (Ne.symm I12.out.n7o))
                  clear hp13 hg13
                  go_wp2
                  go_roundg cy
                  case measure => exact HCY.out
                  case rel => exact ⟨ins o2 (mulT p q), _, A13, I13, ⟨HNX2.out trivial⟩, ⟨HTN.out HTK.out⟩⟩
                | false =>
                  go_wp2_with (first | (go_at_call 101; refine (ring_times.calls c d n true _ HT.out).mono ?_; rintro e w12 ⟨rfl, ⟨nd, rfl⟩⟩; have A12 := Aside0.mk (A11.out.quiet (grown_drewN wr nd)); have I12 := Aside0.mk (I11.out.quiet (grown_drewN wr nd)); have S12 := Aside0.mk (show (wr.drewN nd).heap[b11]? = some (.cells ca 81 (0, 0)) from S11.out)) | ((with_reducible refine gate_load (t := 81) (x := .tmp 11) rfl ?_); refine run_law (by rfl) (.agg ca) (load_run (ty := 81) (x := .tmp 11) (b := b11) (t := 81) (cs := ca) ?h1 ?h2 S12.out ?h3 Try.underlying81 ?h4) ?_; (case h1 => rfl); (case h2 => rfl); (case h3 => rfl); (case h4 => rw [HE8.out]; kernel_rfl)))
                  refine (HDD.out _ A12.out.pm).mono ?_
                  rintro e w13 ⟨rfl, hp13, hg13⟩
                  have A13 := Aside0.mk (A12.out.add hg13 hp13)
                  have I13 := Aside0.mk (I12.out.step hg13 A12.out.ge (Ne.symm I12.out.nyo) (Ne.symm I12.out.n7o))
                  clear hp13 hg13
                  go_wp2
                  go_ret2
                  refine ⟨A13.out.below, .inr ⟨?_, rfl⟩⟩
                  rcases HF.out with ⟨_, h, _⟩ | ⟨_, h⟩
                  · exact absurd h (HBAD2.out trivial)
                  · exact h
              · rw [decide_eq_false hT] at ht
                have HT := Aside0.mk ht
                have HBG := Aside0.mk (HNT.out (fun h => hT (by rw [← HM2.out]; exact h.2)))
                clear ht hn hT
                go_wp2_with (first | (go_at_call 101; refine (ring_times.calls c d n false _ HT.out).mono ?_; rintro e w12 ⟨rfl, ⟨nd, rfl⟩⟩; have A12 := Aside0.mk (A11.out.quiet (grown_drewN wr nd))))
                go_ret2
                exact ⟨A12.out.below, .inr ⟨HBG.out, rfl⟩⟩
end
end Go.Proofs.Ytlidibbdacohaaa.R
