import Derived.Test.YtlidibbdacohaaaR4
import Derived.Test.YtlidibbdacohaaaPRingEqualsxf85
import Derived.Lib.SliceRun
import Derived.Shelf.SlSortCmp.WholeK
import Derived.Test.YtlidibbdacohaaaR8
import Derived.Test.YtlidibbdacohaaaPRingEqualsx0
import Derived.Test.YtlidibbdacohaaaPRingEqualsxf74
/- The comparison of two monomials, as the sort asks it. slices.Clone of integers; the monomials of a map, collected. slices.SortFunc at a row of monomials. Normal of both: what they answer. No condition. -/
namespace Go.Proofs.Ytlidibbdacohaaa.R
section
open Go.RowKit Go.Maps Go.ChangeShapes Go.WideShapes Go.Proofs.Ytlidibbdacohaaa.PRingEquals Go.Proofs.YtlidibbdacohaaaW.PrintWords Go.Proofs.YtlidibbdacohaaaW.PrintLast Go.Proofs.YtlidibbdacohaaaW.PrintMore
set_option linter.unusedVariables false
set_option linter.unusedSimpArgs false

/-- Below, and draws don't go back. -/
def Grew (W W2 : World) : Prop := Below W.heap.size W W2 ∧ W.drawn ≤ W2.drawn
theorem Grew.refl (W : World) : Grew W W := ⟨Below.refl _ _, Nat.le_refl _⟩
theorem Grew.trans {a b c : World} (h : Grew a b) (k : Grew b c) : Grew a c := ⟨below_step h.1 k.1, Nat.le_trans h.2 k.2⟩
theorem Grew.alloc (W : World) (o : Obj) : Grew W (W.alloc o) := ⟨below_alloc (Below.refl _ _) o, Nat.le_refl _⟩
theorem Grew.drewN (W : World) (n : Nat) : Grew W (W.drewN n) := ⟨pw_below_drewN (Below.refl _ _) n, Nat.le_add_right _ _⟩
/-- The comparison of exponents. -/
def cmpE : Ex → Ex → Int
  | x :: a, y :: b => if x < y then -1 else if y < x then 1 else cmpE a b
  | [], [] => 0
  | [], _ :: _ => -1
  | _ :: _, [] => 1
theorem cmpE_neg : ∀ {a b : Ex}, a.length = b.length → (cmpE b a < 0 ↔ lessE a b = true)
  | [], [], _ => by simp [cmpE, lessE]
  | [], _ :: _, h => by simp at h
  | _ :: _, [], h => by simp at h
  | x :: a, y :: b, h => by
    have ih := cmpE_neg (Nat.succ.inj h)
    show (if y < x then (-1 : Int) else if x < y then 1 else cmpE b a) < 0 ↔ (if x = y then lessE a b else decide (y < x)) = true
    by_cases h1 : y < x
    · rw [if_pos h1, if_neg (show ¬ x = y by omega)]
      simp [h1]
    · by_cases h2 : x < y
      · rw [if_neg h1, if_pos h2, if_neg (show ¬ x = y by omega)]
        simp [h1]
      · rw [if_neg h1, if_neg h2, if_pos (show x = y by omega)]
        exact ih
theorem cmpI_ev (x y : Int) : cmp_Compare_int.f x y = some (if x < y then -1 else if y < x then 1 else 0) := by
  unfold cmp_Compare_int.f cmp_isNaN_int.f
  simp
  by_cases h1 : x < y
  · simp [h1]
  · by_cases h2 : y < x
    · simp [h1, h2]
    · simp [h1, h2]
theorem cmp_l0 {a b : Ex} (hl : a.length = b.length) (hn : a.length ≤ 100000) : ∀ (d i : Nat), d + i = a.length → Ev (fun k => slices_Compare_int_int.l0 k a b a (a.length : Int) (i : Int)) (cmpE (a.drop i) (b.drop i))
  | 0, i, h => by
    refine Ev.step (fun k => slices_Compare_int_int.l0.eq_2 ..) ?_
    simp only [if_neg (show ¬ (i : Int) < (a.length : Int) by omega), if_neg (show ¬ (a.length : Int) < (b.length : Int) by omega)]
    rw [List.drop_eq_nil_of_le (by omega), List.drop_eq_nil_of_le (by omega)]
    exact Ev.now _
  | d + 1, i, h => by
    refine Ev.step (fun k => slices_Compare_int_int.l0.eq_2 ..) ?_
    simp only [if_pos (show (i : Int) < (a.length : Int) by omega), if_pos (show (0 : Int) ≤ (i : Int) by omega), if_neg (show ¬ (i : Int) ≥ (b.length : Int) by omega), if_pos (show (i : Int) < (b.length : Int) by omega), cmpI_ev, Option.bind_some]
    rw [rd_nat a i (by omega), rd_nat b i (by omega), List.drop_eq_getElem_cons (show i < a.length by omega), List.drop_eq_getElem_cons (show i < b.length by omega), wrap_nat (by omega)]
    simp only [cmpE]
    by_cases h1 : a[i]'(by omega) < b[i]'(by omega)
    · simp only [if_pos h1, if_neg (show ¬ (-1 : Int) = 0 by decide)]
      exact Ev.now _
    · by_cases h2 : b[i]'(by omega) < a[i]'(by omega)
      · simp only [if_neg h1, if_pos h2, if_neg (show ¬ (1 : Int) = 0 by decide)]
        exact Ev.now _
      · simp only [if_neg h1, if_neg h2, if_true]
        exact cmp_l0 hl hn d (i + 1) (by omega)
theorem cmp_ev {a b : Ex} (hl : a.length = b.length) (hn : a.length ≤ 100000) : Ev (fun k => slices_Compare_int_int.f k a b) (cmpE a b) := cmp_l0 hl hn a.length 0 rfl
set_option maxRecDepth 100000 in
theorem cmpM_calls (A B : Option Addr) (c d : Nat) (x y : Ex × Int) (w : World) (hx : x.1.length = 8) (hy : y.1.length = 8) (hA : (Kd.int .i64).C w A x.1.length x.1) (hc : x.1.length ≤ c) (hB : (Kd.int .i64).C w B y.1.length y.1) (hd : y.1.length ≤ d) :
    Calls Try.prog 96 #[.agg #[.int .i64 x.2, .slice A x.1.length c], .agg #[.int .i64 y.2, .slice B y.1.length d]] w fun e w' => e = .returned (.int .i64 (cmpE y.1 x.1)) ∧ Grew w w' := by
  obtain ⟨k, hk⟩ := cmp_ev (a := y.1) (b := x.1) (by omega) (by omega)
  have HK := Aside0.mk (hk k (Nat.le_refl _))
  have e0 : (w.alloc (.cells #[.int .i64 x.2, .slice A x.1.length c] 74)).heap.size = w.heap.size + 1 := World.size_alloc _ _
  have b1 := below_alloc (Below.refl w.heap.size w) (.cells #[.int .i64 x.2, .slice A x.1.length c] 74)
  have b2 := below_step b1 (below_alloc (Below.refl (w.alloc (.cells #[.int .i64 x.2, .slice A x.1.length c] 74)).heap.size (w.alloc (.cells #[.int .i64 x.2, .slice A x.1.length c] 74))) (.cells #[.int .i64 y.2, .slice B y.1.length d] 74))
  have g1 := blk_alloc (blk_new w (.cells #[.int .i64 x.2, .slice A x.1.length c] 74)) (.cells #[.int .i64 y.2, .slice B y.1.length d] 74)
  have g2 := blk_new (w.alloc (.cells #[.int .i64 x.2, .slice A x.1.length c] 74)) (.cells #[.int .i64 y.2, .slice B y.1.length d] 74)
  rw [e0] at g2
  have x1 := blk_at (k := 1) g1 rfl
  have y1 := blk_at (k := 1) g2 rfl
  have HA := Aside0.mk (Kd.C_below hA b2)
  have HB := Aside0.mk (Kd.C_below hB b2)
  have HC := Aside0.mk hc
  have HD := Aside0.mk hd
  have HG := Aside0.mk ((Grew.alloc w (.cells #[.int .i64 x.2, .slice A x.1.length c] 74)).trans (Grew.alloc _ (.cells #[.int .i64 y.2, .slice B y.1.length d] 74)))
  clear hA hB hc hd hk e0 b1 b2 g1 g2 hx hy
  go_enter Try.func96, Try.ntmps96
  go_wp2_with (first | (go_at_call 59; skip))
  refine (slices_Compare_int_int.calls k B d y.1 A c x.1 _ _ HB.out HD.out HA.out HC.out HK.out).mono ?_
  rintro e w5 ⟨rfl, ⟨n, rfl⟩⟩
  go_wp2
  go_ret
  exact ⟨rfl, HG.out.trans (Grew.drewN _ n)⟩
theorem empty_R (w : World) : (Kd.int .i64).R 3 (w.alloc (.cells #[] 3)) w.heap.size (fun _ => True) (.slice (some ⟨w.heap.size, 0, none⟩) 0 0) [] :=
  ⟨fun _ _ => trivial, [], ⟨by simp, .inr ⟨w.heap.size, 0, #[], rfl, Nat.le_refl _, blk_new w _, by simp, by simp, by simp, by simp⟩⟩, by simp [Reps]⟩
theorem ints_blk {w : World} {rb : Nat} {l : List Int} {t : TypeId} (h : w.heap[rb]? = some (.cells (l.map (Value.int .i64)).toArray t (0, 0))) (hl : l.length ≤ 9223372036854775807) : (Kd.int .i64).C w (some ⟨rb, 0, none⟩) l.length l := by
  refine ⟨rfl, hl, fun _ => ⟨⟨rb, 0, none⟩, rfl, fun j p hj => ⟨[.int .i64 p], rfl, rfl, fun i u hu => ?_⟩⟩⟩
  cases i with
  | zero =>
    have e : u = .int .i64 p := (Option.some.inj hu).symm
    subst e
    have h1 := blk_at h (k := j) (v := .int .i64 p) (by simp [hj])
    show w.cell? ((⟨rb, 0, none⟩ : Addr).add (j * 1 + 0)) = _
    rw [show (⟨rb, 0, none⟩ : Addr).add (j * 1 + 0) = ⟨rb, j, none⟩ by simp [Addr.add]; omega]
    exact h1
  | succ i => simp at hu
set_option maxRecDepth 100000 in
theorem clone_calls (ad : Addr) (c : Nat) (l : List Int) (w : World) (hr : (Kd.int .i64).C w (some ad) l.length l) (hlen : l.length ≤ 1000000) :
    Calls Try.prog 94 #[.slice (some ad) l.length c] w fun e w' => ∃ v, e = .returned v ∧ (Kd.int .i64).R 3 w' w.heap.size (fun _ => True) v l ∧ Below w.heap.size w w' := by
  have HR := Aside0.mk hr
  have HLN := Aside0.mk hlen
  have hn := fun w : World => Lib.run_eql_slice_nil (P := Try.prog) w 33 3 (some ad) l.length c 0 0 Try.underlying33
  clear hr hlen
  go_enter Try.func94, Try.ntmps94
  go_wp2_with (at_builtin; go_loud (refine Kd.R_append_rows (Kd.int .i64) (Rr := (Kd.int .i64).K (w.alloc (.cells #[] 3))) (w0 := w) w.heap.size rfl (.tmp 5) (.tmp 6) 33 3 (.int .i64 0) 8 rfl Try.underlying33 info3 (by rfl) (by decide) (by decide) (.slice (some ⟨w.heap.size, 0, none⟩) 0 0) [] l (some ad) l.length c (fun _ => True) (fun k_ => some k_ ≠ some w.heap.size) rfl rfl (empty_R w) (Kd.C_below HR.out (below_alloc (Below.refl _ _) _)) (fun x_ cs_ h_ => h_) (fun k_ hk_ => ⟨trivial, by simpa [Value.ownBlock] using hk_⟩) (fun _ _ => trivial) (below_alloc (Below.refl _ _) _) (by simp) (by have := HLN.out; simp; omega) ?_; intro v1 w1 ho hb hg hat; rw [List.nil_append] at ho; have HO := Aside0.mk ho; have HB := Aside0.mk hb; clear ho hb hg hat))
  go_ret
  exact ⟨_, rfl, HO.out, HB.out⟩
theorem R_iter {α : Type} {d : Kd α} {e base : Nat} {w w1 : World} {v : Value} {xs : List α} {r : Nat} (h : d.R e w base (fun _ => True) v xs) (hg : w.grownBy w1 (some r)) (hr : r < base) : d.R e w1 base (fun _ => True) v xs :=
  Kd.R_mono (Kd.R_grown (Kd.R_bound h) hg (fun k hk e => by injection e with e; have := hk.2.1; omega)) (fun _ _ => trivial)
theorem below_grown {w w1 : World} (h : Below w.heap.size w w1) : w.grownBy w1 none := ⟨h.os, h.tape, h.output, h.size, fun k hk _ => h.block k hk⟩
theorem below_less {a b : Nat} {w w1 : World} (h : Below b w w1) (hab : a ≤ b) : Below a w w1 := ⟨h.os, h.tape, h.output, h.size, fun k hk => h.block k (by omega)⟩
theorem gone_perm {l : Po} (hl : Nf l) {lf : Ex → Bool} {t : Ex × Int} (ht : t ∈ l) (h1 : lf t.1 = true) : (gone l (fun e => lf e && !decide (e = t.1))).Perm (gone l lf ++ [t]) := by
  induction l with
  | nil => cases ht
  | cons x l ih =>
    have hx := hl.head_ne
    rcases List.mem_cons.1 ht with rfl | ht
    · have e1 : gone (t :: l) lf = gone l lf := by simp [gone, h1]
      have e3 : gone l (fun e => lf e && !decide (e = t.1)) = gone l lf := gone_same fun q hq => by simp [hx q hq]
      have e2 : gone (t :: l) (fun e => lf e && !decide (e = t.1)) = t :: gone l (fun e => lf e && !decide (e = t.1)) := by simp [gone]
      rw [e1, e2, e3]
      exact List.perm_append_comm (l₁ := [t]) (l₂ := gone l lf)
    · have n1 : x.1 ≠ t.1 := fun e => hx t ht e.symm
      have h3 := ih hl.tail ht
      have e4 : (lf x.1 && !decide (x.1 = t.1)) = lf x.1 := by simp [n1]
      cases h5 : lf x.1 with
      | true =>
        rw [show gone (x :: l) (fun e => lf e && !decide (e = t.1)) = gone l (fun e => lf e && !decide (e = t.1)) by simp [gone, h5, n1], show gone (x :: l) lf = gone l lf by simp [gone, h5]]
        exact h3
      | false =>
        rw [show gone (x :: l) (fun e => lf e && !decide (e = t.1)) = x :: gone l (fun e => lf e && !decide (e = t.1)) by simp [gone, h5], show gone (x :: l) lf = x :: gone l lf by simp [gone, h5]]
        exact h3.cons x
theorem co_perm {a b : Po} (h : a.Perm b) (e : Ex) : co a e = co b e := by
  induction h with
  | nil => rfl
  | cons x _ ih => simp only [co, ih]
  | swap x y l => simp only [co]; omega
  | trans _ _ i1 i2 => rw [i1, i2]
/-- A row in the order of a normal form that holds its terms is the normal form. -/
theorem sorted_nf {l P : Po} (hl : Nf l) (hp : P.Perm l) (hs : P.Pairwise fun a b => lessE b.1 a.1 = false) : P = l := by
  have hex : ∀ t ∈ P, t.1.length = 8 := fun t ht => hl.len t (hp.mem_iff.1 ht)
  have hd : P.Pairwise fun a b => a.1 ≠ b.1 := by
    have : l.Pairwise fun a b => a.1 ≠ b.1 := hl.ord.imp (fun h e => by rw [e, lessE_irr] at h; cases h)
    exact (hp.pairwise_iff (fun h => Ne.symm h)).2 this
  have ho : P.Pairwise fun a b => lessE a.1 b.1 = true := by
    have h1 := hd.and hs
    refine List.Pairwise.imp_of_mem (fun {a b} ha hb h => ?_) h1
    cases h2 : lessE a.1 b.1 with
    | true => rfl
    | false => exact absurd (lessE_tri (by rw [hex a ha, hex b hb]) h2 h.2) h.1
  exact Nf.ext ⟨ho, fun t ht => hl.pos t (hp.mem_iff.1 ht), hex⟩ hl (fun e => co_perm hp e)
/-- What the sort is to do. -/
def SortOk : Prop := ∀ (W : World) (base : Nat) (v : Value) (c : Po), k74.R 74 W base (fun _ => True) v (toL c) → (∀ t ∈ c, t.1.length = 8) → c.length ≤ 1000000 → base ≤ W.heap.size →
  Calls Try.prog 95 #[v, .func (.func 96) #[] #[]] W fun e w' => e = .returned (.tuple #[]) ∧ ∃ A cp P, v = .slice A P.length cp ∧ k74.C w' A P.length (toL P) ∧ P.length ≤ cp ∧ P.Perm c ∧ (P.Pairwise fun a b => lessE b.1 a.1 = false) ∧ Below base W w'
set_option maxRecDepth 100000 in
set_option maxHeartbeats 4000000 in
theorem listed_calls (hsort : SortOk) (mb : Nat) (l : Po) (w : World) (hP : PM w mb l) (hl : NfE l) :
    Calls Try.prog 73 #[.map (some mb)] w fun e w' => ∃ A cp, e = .returned (.slice A l.length cp) ∧ k74.C w' A l.length (toL l) ∧ l.length ≤ cp ∧ Below w.heap.size w w' := by
  have HX := Aside0.mk hl
  have HSO := Aside0.mk hsort
  obtain ⟨w2, hrange, hpr, hg2, hs2⟩ := hP.range
  have HB2 := Aside0.mk (show Below w.heap.size w w2 from (Below.refl _ _).grown hg2 (Nat.le_refl _) (fun k e => by cases e))
  have R2 := Aside0.mk hpr
  have HMB := Aside0.mk hP.lt
  have HS2 := Aside0.mk (show w.heap.size < w2.heap.size by omega)
  clear hP hl hpr hg2 hs2 hsort
  go_enter Try.func73, Try.ntmps73
  go_wp2
  clear hrange
  go_loopg [3] l.length (fun kq v3 w3 => ∃ (lf : Ex → Bool) (c : Po), Aside0 (PR w3 mb w.heap.size l lf kq) ∧ Aside0 (Below w.heap.size w w3) ∧ Aside0 (w2.heap.size ≤ w3.heap.size) ∧ Aside0 (k74.R 74 w3 w2.heap.size (fun _ => True) v3 (toL c)) ∧ Aside0 (c.Perm (gone l lf)))
  case atStart => exact ⟨_, [], R2, HB2, ⟨Nat.le_refl _⟩, ⟨Kd.R_nil _ _ _ _ _⟩, ⟨by rw [gone_none (fun _ _ => rfl)]⟩⟩
  case round =>
    clear R2
    obtain ⟨lf, c, R3, B3, Z3, V3, C3⟩ := hrel
    rcases R3.out.next 0 with ⟨h0, hall, hrun⟩ | ⟨t, ht, w4, cnt2, hlf, hrun, hpr, hlt2, hg4, hs4, hen⟩
    · have HPE := Aside0.mk (show c.Perm l from by have := C3.out; rw [gone_all hall] at this; exact this)
      clear hall h0
      go_wp2_with (first | (go_at_call 59; skip))
      refine (HSO.out _ w2.heap.size _ c V3.out (fun t ht => HX.out.nf.len t (HPE.out.mem_iff.1 ht)) (by have := HPE.out.length_eq; have := HX.out.len; omega) Z3.out).mono ?_
      rintro e w5 ⟨rfl, A, cp, P, hv, hC, hcp, hp, hs, hb⟩
      have HPL := Aside0.mk (sorted_nf HX.out.nf (hp.trans HPE.out) hs)
      have HC := Aside0.mk hC
      have HCP := Aside0.mk hcp
      have HB5 := Aside0.mk (B3.out.trans (below_less hb (Nat.le_of_lt HS2.out)))
      subst hv
      clear hC hcp hp hs hb
      go_wp2
      go_ret
      exact ⟨A, cp, by rw [← HPL.out]; rfl, by rw [← HPL.out]; exact HC.out, by rw [← HPL.out]; exact HCP.out, HB5.out⟩
    · have HCN := Aside0.mk hlt2
      have HTL := Aside0.mk (HX.out.nf.len t ht)
      have HGP := Aside0.mk (show (c ++ [t]).Perm (gone l (fun e => lf e && !decide (e = t.1))) from (C3.out.append_right [t]).trans (gone_perm HX.out.nf ht hlf).symm)
      have HCL := Aside0.mk (show c.length ≤ 200 from by
        have h1 := C3.out.length_eq
        have h2 : (gone l lf).length ≤ l.length := List.length_filter_le _ _
        have := HX.out.len
        omega)
      have HTX := Aside0.mk (HX.out.ex t ht)
      have B4 := Aside0.mk (B3.out.grown hg4 B3.out.size (fun k e => by injection e with e; omega))
      have Z4 := Aside0.mk (show w2.heap.size ≤ w4.heap.size by have := Z3.out; omega)
      have R4 := Aside0.mk hpr
      have V4 := Aside0.mk (R_iter V3.out hg4 HS2.out)
      clear hpr hg4 hs4 hlt2 ht hlf V3 B3 R3 C3 Z3
      have B5 := Aside0.mk (below_step B4.out (below_alloc (Below.refl w4.heap.size w4) (.cells (cE t.1) 81)))
      have R5 := Aside0.mk (R4.out.kept (World.grownBy_alloc w4 (.cells (cE t.1) 81) none) (by simp) (by simp))
      have V5 := Aside0.mk (Kd.R_below V4.out (below_alloc (Below.refl w4.heap.size w4) (.cells (cE t.1) 81)))
      have C5 := Aside0.mk (show (Kd.int .i64).C (w4.alloc (.cells (cE t.1) 81)) (some ⟨w4.heap.size, 0, none⟩) t.1.length t.1 from ints_blk (blk_new w4 (.cells (cE t.1) 81)) (by rw [HTL.out]; omega))
      have HCLN := Aside0.mk (clone_calls ⟨w4.heap.size, 0, none⟩ 8 t.1 _ C5.out (by rw [HTL.out]; omega))
      rw [HTL.out] at HCLN
      have HSZ := Aside0.mk (show (cE t.1).size = 8 by rw [cE_size]; exact HTL.out)
      have HONE := Aside0.mk (cE_one t.1)
      clear C5
      unfold vE at *
      generalize hce : cE t.1 = ce at *
      clear hce
      go_wp2_with (first | ((with_reducible refine gate_alloc (t := 81) rfl ?_); refine alloc_zero rfl rfl (cE zeros8) zero81 ?_) | ((with_reducible refine gate_store (t := 81) (p := 4) rfl ?_); refine store_last rfl rfl rfl _ 81 _ ce (by rfl) (by rfl) rfl (by rw [HSZ.out]; kernel_rfl) (by rw [HSZ.out]; rfl) HONE.out ?_) | (go_at_call 59; skip))
      refine HCLN.out.mono ?_
      rintro e w6 ⟨v6, rfl, hr6, hb6⟩
      obtain ⟨A6, c6, hv6⟩ := Kd.R_slice hr6
      subst hv6
      rw [HTL.out] at *
      have B6 := Aside0.mk (below_step B5.out hb6)
      have Z6 := Aside0.mk (show w2.heap.size ≤ w6.heap.size by have h1 := hb6.size; have h2 := Z4.out; rw [World.size_alloc] at h1; omega)
      have R6 := Aside0.mk (R5.out.kept (below_grown hb6) (by simp) (by simp))
      have V6 := Aside0.mk (Kd.R_below V5.out hb6)
      have I6 := Aside0.mk (show (Kd.int .i64).R 3 w6 w2.heap.size (fun _ => True) (.slice A6 8 c6) t.1 from Kd.R_lower hr6 (by have := Z4.out; rw [World.size_alloc]; omega))
      clear hr6 hb6 B5 B4 R5 R4 V5 V4 HCLN
      go_wp2_with (at_builtin; go_loud (refine Kd.R_append k74 (w0 := w6) (W := w6) w2.heap.size rfl (.tmp 13) (.tmp 18) 37 74 (.agg #[(.int .i64 0), (.slice none 0 0)]) 32 rfl Try.underlying37 info74 rfl (by decide) (by decide) u3 (toL c) ⟨t.2, t.1⟩ [.int .i64 t.2, .slice A6 8 c6] (fun _ => True) (fun k => True ∧ some k ≠ u3.ownBlock) rfl rfl (k74_mkM w6 w2.heap.size _ ⟨t.2, t.1⟩ (Kd.R_apart' I6.out (Kd.R_typed V6.out) (by decide))) (fun _ hk => hk) (fun _ _ => trivial) V6.out (Below.refl _ _) Z6.out (by have := HCL.out; simp [toL]; omega) ?_; intro v9 w9 hr1 hb1 hg1 hat1; have V9 := Aside0.mk hr1; have B9 := Aside0.mk hb1; have G9 := Aside0.mk hg1; clear hr1 hb1 hg1 hat1))
      have BA := Aside0.mk (Kd.R_base V6.out)
      go_roundg cnt2
      case measure => exact HCN.out
      case rel =>
        refine ⟨_, c ++ [t], ⟨R6.out.kept G9.out (fun e => ?_) (fun e => ?_)⟩, ⟨B6.out.trans (below_less B9.out (Nat.le_of_lt HS2.out))⟩, ⟨Nat.le_trans Z6.out B9.out.size⟩, ⟨?_⟩, HGP⟩
        · have h1 := BA.out mb e.symm
          have h2 := HMB.out
          have h3 := HS2.out
          omega
        · have h1 := BA.out w.heap.size e.symm
          have h3 := HS2.out
          omega
        · have := V9.out
          rw [show toL (c ++ [t]) = toL c ++ [⟨t.2, t.1⟩] by simp [toL, toS]]
          exact this
end
section
open Go.RowKit Go.Proofs.Ytlidibbdacohaaa.PRingEquals Go.Proofs.YtlidibbdacohaaaW.PrintWords Go.Proofs.YtlidibbdacohaaaW.PrintLast Go.Proofs.YtlidibbdacohaaaW.PrintMore
set_option linter.unusedVariables false
set_option linter.unusedSimpArgs false
open Go.Sort (grow putRow SWO flatK get_flatK size_flatK HoldsK holds_putRow holds_ahead size_putRow putRowK PermIn SortedIn)

/-- slices.SortFunc of this program, as the shelf's contract names its parts. -/
def lSort_ren : Go.Shelf.Ren := ⟨fun | 6 => 95 | 15 => 116 | 14 => 115 | 28 => 134 | 29 => 135 | 20 => 126 | 21 => 127 | 22 => 128 | 23 => 129 | 24 => 130 | 25 => 131 | 26 => 132 | 27 => 133 | 46 => 142 | 47 => 143 | 48 => 144 | 49 => 145 | 50 => 146 | 57 => 151 | n => n, fun | 22 => 37 | 24 => 74 | 25 => 107 | 3 => 3 | 39 => 130 | 0 => 0 | 53 => 144 | 55 => 82 | 4 => 4 | 46 => 138 | 45 => 137 | 50 => 112 | 5 => 5 | 9 => 9 | 66 => 150 | 70 => 154 | 76 => 158 | 77 => 61 | n => n, fun | n => n⟩
theorem lSort : Go.Proofs.SlLaysF0.n6 Try.prog lSort_ren := {
  mixed := by kernel_rfl,
  f6 := ⟨Try.f95.name, by decide, Try.func95.trans (congrArg some (by kernel_rfl))⟩,
  f14 := ⟨Try.f115.name, by decide, Try.func115.trans (congrArg some (by kernel_rfl))⟩,
  f15 := Try.func116.trans (congrArg some (by kernel_rfl)),
  f20 := ⟨Try.f126.name, by decide, Try.func126.trans (congrArg some (by kernel_rfl))⟩,
  f21 := ⟨Try.f127.name, by decide, Try.func127.trans (congrArg some (by kernel_rfl))⟩,
  f22 := ⟨Try.f128.name, by decide, Try.func128.trans (congrArg some (by kernel_rfl))⟩,
  f23 := ⟨Try.f129.name, by decide, Try.func129.trans (congrArg some (by kernel_rfl))⟩,
  f24 := ⟨Try.f130.name, by decide, Try.func130.trans (congrArg some (by kernel_rfl))⟩,
  f25 := ⟨Try.f131.name, by decide, Try.func131.trans (congrArg some (by kernel_rfl))⟩,
  f26 := ⟨Try.f132.name, by decide, Try.func132.trans (congrArg some (by kernel_rfl))⟩,
  f27 := ⟨Try.f133.name, by decide, Try.func133.trans (congrArg some (by kernel_rfl))⟩,
  f28 := Try.func134.trans (congrArg some (by kernel_rfl)),
  f29 := Try.func135.trans (congrArg some (by kernel_rfl)),
  f46 := ⟨Try.f142.name, by decide, Try.func142.trans (congrArg some (by kernel_rfl))⟩,
  f47 := Try.func143.trans (congrArg some (by kernel_rfl)),
  f48 := Try.func144.trans (congrArg some (by kernel_rfl)),
  f49 := ⟨Try.f145.name, by decide, Try.func145.trans (congrArg some (by kernel_rfl))⟩,
  f50 := ⟨Try.f146.name, by decide, Try.func146.trans (congrArg some (by kernel_rfl))⟩,
  f57 := ⟨Try.f151.name, by decide, Try.func151.trans (congrArg some (by kernel_rfl))⟩,
  t0 := Try.underlying0,
  a0 := Try.isAgg0,
  z0 := Try.sizeOf0,
  v0 := Try.zeroValue0,
  t3 := Try.underlying3,
  a3 := Try.isAgg3,
  z3 := Try.sizeOf3,
  v3 := Try.zeroValue3,
  t4 := Try.underlying4,
  a4 := Try.isAgg4,
  z4 := Try.sizeOf4,
  v4 := Try.zeroValue4,
  t5 := Try.underlying5,
  a5 := Try.isAgg5,
  z5 := Try.sizeOf5,
  v5 := Try.zeroValue5,
  t9 := Try.underlying9,
  a9 := Try.isAgg9,
  z9 := Try.sizeOf9,
  v9 := Try.zeroValue9,
  t22 := Try.underlying37,
  a22 := Try.isAgg37,
  z22 := Try.sizeOf37,
  v22 := Try.zeroValue37,
  t25 := Try.underlying107,
  a25 := Try.isAgg107,
  z25 := Try.sizeOf107,
  v25 := Try.zeroValue107,
  t39 := Try.underlying130,
  a39 := Try.isAgg130,
  z39 := Try.sizeOf130,
  v39 := Try.zeroValue130,
  t45 := Try.underlying137,
  a45 := Try.isAgg137,
  z45 := Try.sizeOf137,
  v45 := Try.zeroValue137,
  t46 := Try.underlying138,
  a46 := Try.isAgg138,
  z46 := Try.sizeOf138,
  v46 := Try.zeroValue138,
  t50 := Try.underlying112,
  a50 := Try.isAgg112,
  z50 := Try.sizeOf112,
  v50 := Try.zeroValue112,
  t53 := Try.underlying144,
  a53 := Try.isAgg144,
  z53 := Try.sizeOf144,
  v53 := Try.zeroValue144,
  t55 := Try.underlying82,
  a55 := Try.isAgg82,
  z55 := Try.sizeOf82,
  v55 := Try.zeroValue82,
  t66 := Try.underlying150,
  a66 := Try.isAgg150,
  z66 := Try.sizeOf150,
  v66 := Try.zeroValue150,
  t70 := Try.underlying154,
  a70 := Try.isAgg154,
  z70 := Try.sizeOf154,
  v70 := Try.zeroValue154,
  t76 := Try.underlying158,
  a76 := Try.isAgg158,
  z76 := Try.sizeOf158,
  v76 := Try.zeroValue158,
  t77 := Try.underlying61,
  a77 := Try.isAgg61,
  z77 := Try.sizeOf61,
  v77 := Try.zeroValue61
}

section
variable (p : Option Addr) (cap : Nat) (fv : Value)
set_option maxHeartbeats 2000000 in
theorem ins_none (w : World) : Calls Try.prog 126 #[.slice p 0 cap, .int .i64 0, .int .i64 0, fv] w fun e w' => e = .returned (.tuple #[]) ∧ w' = w := by
  go_enter Try.func126, Try.ntmps126
  go_wp2
  refine wp_loop_rounds 1 ?_
  rw [rounds_succ]
  go_wp2
  go_end0
  exact ⟨rfl, rfl⟩
set_option maxHeartbeats 2000000 in
theorem pdq_none (lim : Int) (w : World) : Calls Try.prog 115 #[.slice p 0 cap, .int .i64 0, .int .i64 0, .int .i64 lim, fv] w fun e w' => e = .returned (.tuple #[]) ∧ w' = w := by
  go_enter Try.func115, Try.ntmps115
  go_wp2
  refine wp_loop_rounds 1 ?_
  rw [rounds_succ]
  go_wp2_with (go_at_call 126; refine (ins_none p cap fv _).mono ?_; rintro e w' ⟨rfl, rfl⟩)
  (try simp only [Exit.inBlock, Exit.then]); refine bodyPost_ret (results_none rfl _ _ _) rfl ?_
  exact ⟨rfl, rfl⟩
set_option maxHeartbeats 2000000 in
theorem sort_none (w : World) : Calls Try.prog 95 #[.slice p 0 cap, fv] w fun e w' => e = .returned (.tuple #[]) ∧ w' = w := by
  have hl := Go.Proofs.Any.bits_Len (Go.Proofs.SlLaysF0.n15.bits (P := Try.prog) (ρ := lSort_ren) { lSort with }) 0 w (by omega) (by omega)
  change Calls Try.prog 116 _ _ _ at hl
  go_enter Try.func95, Try.ntmps95
  go_wp2_with (first | (go_at_call 116; refine hl.mono ?_; rintro e w' ⟨rfl, rfl⟩) | (go_at_call 115; refine (pdq_none p cap fv _ _).mono ?_; rintro e w' ⟨rfl, rfl⟩))
  go_end0
  exact ⟨rfl, rfl⟩
end

theorem Grew.exact {W W2 : World} (h : Grew W W2) : ∃ q os, W2 = Go.Sort.grow (W.drewN q) os := by
  obtain ⟨⟨h1, h2, h3, h4, h5⟩, h6⟩ := h
  refine ⟨W2.drawn - W.drawn, W2.heap.extract W.heap.size W2.heap.size, ?_⟩
  have hh : W2.heap = W.heap ++ W2.heap.extract W.heap.size W2.heap.size := by
    refine Array.ext_getElem? fun i => ?_
    rw [Array.getElem?_append]
    split
    · rename_i hi
      exact h5 i hi
    · rename_i hi
      rw [Array.getElem?_extract]
      by_cases hlt : i < W2.heap.size
      · rw [if_pos (by omega), show W.heap.size + (i - W.heap.size) = i by omega]
      · rw [if_neg (by omega)]
        exact Array.getElem?_eq_none (by omega)
  have hd : W.drawn + (W2.drawn - W.drawn) = W2.drawn := by omega
  obtain ⟨heap, tape, drawn, os, output⟩ := W
  obtain ⟨heap2, tape2, drawn2, os2, output2⟩ := W2
  dsimp only at h1 h2 h3 hh hd
  subst h1
  subst h2
  subst h3
  simp only [Go.Sort.grow, World.drewN, World.mk.injEq, true_and, and_true]
  exact ⟨hh, hd.symm⟩
/-- A monomial in a row, with what its slice of exponents is; the exponents lie outside the row's block. -/
def CxOk (w : World) (g : Nat) (x : S74 × Option Addr × Nat) : Prop := x.1.f1.length = 8 ∧ x.1.f1.length ≤ x.2.2 ∧ ∀ W : World, (∀ k, k < w.heap.size → k ≠ g → W.heap[k]? = w.heap[k]?) → (Kd.int .i64).C W x.2.1 x.1.f1.length x.1.f1
def Cx (w : World) (g : Nat) : Type := { x : S74 × Option Addr × Nat // CxOk w g x }
section
variable {w : World} {g : Nat}
def Cx.call {w : World} {g : Nat} (x : Cx w g) : S74 := x.1.1
def encX {w : World} {g : Nat} (x : Cx w g) : List Value := [.int .i64 x.1.1.f0, .slice x.1.2.1 x.1.1.f1.length x.1.2.2]
def cfX {w : World} {g : Nat} (x y : Cx w g) : Int := cmpE y.call.f1 x.call.f1
theorem encX_len (x : Cx w g) : (encX x).length = 2 := rfl
theorem encX_one (x : Cx w g) : ∀ v ∈ encX x, v.oneCell' = true := by
  intro v hv
  simp only [encX, List.mem_cons, List.not_mem_nil, or_false] at hv
  rcases hv with rfl | rfl <;> rfl
theorem ltX (x y : Cx w g) : Go.Proofs.ltOf cfX x y = lessE x.call.f1 y.call.f1 := by
  unfold Go.Proofs.ltOf cfX
  rw [Bool.eq_iff_iff, decide_eq_true_eq]
  exact cmpE_neg (by show x.1.1.f1.length = y.1.1.f1.length; rw [x.2.1, y.2.1])
theorem less_ntrans {a b c : Ex} (ha : a.length = 8) (hb : b.length = 8) (hc : c.length = 8) (h1 : lessE a b = false) (h2 : lessE b c = false) : lessE a c = false := by
  cases h3 : lessE a c with
  | false => rfl
  | true =>
    cases h4 : lessE c b with
    | true =>
      have := lessE_trans h3 h4
      rw [h1] at this
      cases this
    | false =>
      have e := lessE_tri (by rw [hb, hc]) h2 h4
      subst e
      rw [h1] at h3
      cases h3
theorem swoX : SWO (Go.Proofs.ltOf (cfX (w := w) (g := g))) := ⟨fun x => by rw [ltX]; exact lessE_irr _, fun x y z h1 h2 => by rw [ltX] at h1 h2 ⊢; exact lessE_trans h1 h2, fun x y z h1 h2 => by rw [ltX] at h1 h2 ⊢; exact less_ntrans x.2.1 y.2.1 z.2.1 h1 h2⟩
theorem sort_heap (W : World) (m : Nat) (F : Array Value) (os : Array Obj) : ∀ k, k < W.heap.size → k ≠ g → (grow (putRow id (Go.Sort.ahead W m) g 0 F) os).heap[k]? = W.heap[k]? := by
  intro k hk hne
  show ((putRow id (Go.Sort.ahead W m) g 0 F).heap ++ os)[k]? = _
  have hs : (putRow id (Go.Sort.ahead W m) g 0 F).heap.size = W.heap.size := size_putRow id (Go.Sort.ahead W m) g 0 F
  rw [Array.getElem?_append, if_pos (by rw [hs]; exact hk)]
  show (W.heap.modify g _)[k]? = _
  rw [Array.getElem?_modify, if_neg (fun e => hne e.symm)]
theorem cmpLaysX [Inhabited (Cx w g)] (off size : Nat) : CmpLays Try.prog 96 #[] (encX (w := w) (g := g)) 2 cfX g 0 size w := by
  intro m os dk hs x y
  rw [Array.append_empty]
  refine (cmpM_calls x.1.2.1 y.1.2.1 x.1.2.2 y.1.2.2 (x.1.1.f1, x.1.1.f0) (y.1.1.f1, y.1.1.f0) (sortWorldK encX 2 w g 0 m dk os) x.2.1 y.2.1 (x.2.2.2 _ (sort_heap w m _ os)) x.2.2.1 (y.2.2.2 _ (sort_heap w m _ os)) y.2.2.1).mono ?_
  rintro e w' ⟨h1, h2⟩
  exact ⟨h1, h2.exact⟩
end
theorem below_sort {W : World} {base g : Nat} (hb : base ≤ g) (m : Nat) (F : Array Value) (os : Array Obj) (hs : base ≤ W.heap.size) : Below base W (grow (putRow id (Go.Sort.ahead W m) g 0 F) os) := by
  refine ⟨rfl, rfl, rfl, ?_, fun k hk => sort_heap W m F os k (by omega) (by omega)⟩
  show W.heap.size ≤ ((putRow id (Go.Sort.ahead W m) g 0 F).heap ++ os).size
  rw [Array.size_append, size_putRow]
  show W.heap.size ≤ W.heap.size + _
  omega
set_option maxHeartbeats 2000000 in
set_option maxRecDepth 100000 in
/-- A row of monomials, sorted. -/
theorem sort_S {W : World} {base : Nat} {v : Value} {L : List S74} (h : k74.R 74 W base (fun _ => True) v L) (h8 : ∀ t ∈ L, t.f1.length = 8) (hL : L.length ≤ 1000000) (hbase : base ≤ W.heap.size) :
    Calls Try.prog 95 #[v, .func (.func 96) #[] #[]] W fun e w' => e = .returned (.tuple #[]) ∧ ∃ A cp P, v = .slice A P.length cp ∧ k74.C w' A P.length P ∧ P.length ≤ cp ∧ P.Perm L ∧ (P.Pairwise fun a b => lessE b.f1 a.f1 = false) ∧ Below base W w' := by
  obtain ⟨_, inner, ⟨hil, hown⟩, hr⟩ := h
  rcases hown with ⟨hv, hn⟩ | ⟨g, cap, cur, hv, hg, hblk, hnc, hcm, hcs, hct⟩
  · have e : L = [] := List.eq_nil_of_length_eq_zero hn
    subst e
    subst hv
    refine (sort_none none 0 (.func (.func 96) #[] #[]) W).mono ?_
    rintro e w' ⟨rfl, rfl⟩
    exact ⟨rfl, none, 0, [], rfl, Kd.C_nil _ _, Nat.le_refl _, List.Perm.refl _, List.Pairwise.nil, Below.refl _ _⟩
  · have hgl : g < W.heap.size := (Array.getElem?_eq_some_iff.1 hblk).1
    have hex : ∀ j, (hj : j < L.length) → ∃ x : Cx W g, x.call = L[j] ∧ (inner.drop (j * 2)).take 2 = encX x := by
      intro j hj
      obtain ⟨c0, c1, e0, rfl, V1, rfl, hra⟩ := hr.2 j L[j] (List.getElem?_eq_getElem hj)
      replace hra : (Kd.int .i64).R 3 W base (fun k => True ∧ some k ≠ v.ownBlock) V1 L[j].f1 := hra
      have hre := hra
      obtain ⟨A1, cp1, ev1⟩ := Kd.R_slice hra
      subst ev1
      refine ⟨⟨(L[j], A1, cp1), h8 _ (List.getElem_mem hj), (Kd.R_reads' hra).2.1, fun W2 hW => ?_⟩, rfl, e0⟩
      have h2 : (Kd.int .i64).R 3 W2 base (fun k => True ∧ some k ≠ v.ownBlock) (.slice A1 L[j].f1.length cp1) L[j].f1 := Kd.R_step hra (fun k hk hlt => hW k hlt (fun e => hk.2 (by rw [hv, e]; rfl)))
      exact (Kd.R_reads' h2).2.2
    by_cases hL0 : L = []
    · subst hL0
      rw [hv]
      refine (sort_none (some ⟨g, 0, none⟩) cap (.func (.func 96) #[] #[]) W).mono ?_
      rintro e w' ⟨rfl, rfl⟩
      exact ⟨rfl, some ⟨g, 0, none⟩, cap, [], rfl, ⟨rfl, by simp, fun h => absurd h (Nat.lt_irrefl 0)⟩, Nat.zero_le _, List.Perm.refl _, List.Pairwise.nil, Below.refl _ _⟩
    have hlc : L.length ≤ cap := hnc
    have hpos : 0 < L.length := List.length_pos_iff.2 hL0
    obtain ⟨x0, _, _⟩ := hex 0 hpos
    haveI : Inhabited (Cx W g) := ⟨x0⟩
    obtain ⟨d, hd⟩ : ∃ d : Array (Cx W g), d = Array.ofFn (n := L.length) fun j => Classical.choose (hex j.1 j.2) := ⟨_, rfl⟩
    have hds : d.size = L.length := by rw [hd, Array.size_ofFn]
    have hdc : ∀ j, (hj : j < L.length) → (d[j]!).call = L[j] ∧ (inner.drop (j * 2)).take 2 = encX d[j]! := by
      intro j hj
      have e : d[j]! = Classical.choose (hex j hj) := by
        rw [getElem!_pos d j (by rw [hds]; exact hj)]
        simp only [hd, Array.getElem_ofFn]
      rw [e]
      exact Classical.choose_spec (hex j hj)
    have hH : HoldsK encX 2 W g 0 d := by
      intro t ht
      rw [size_flatK, hds] at ht
      have hj : t / 2 < L.length := by omega
      have h1 := (hdc (t / 2) hj).2
      have hget : cur[t]? = some ((flatK encX 2 d)[t]!) := by
        rw [get_flatK encX 2 d t (by rw [hds]; exact ht)]
        have h2 : inner[t]? = cur[t]? := by
          rw [← hct, List.getElem?_take_of_lt (show t < L.length * k74.sz from ht), Array.getElem?_toList]
        rw [← h2]
        have h3 : (encX d[t / 2]!)[t % 2]? = inner[t]? := by
          rw [← h1, List.getElem?_take_of_lt (by omega), List.getElem?_drop]
          congr 1
          omega
        rw [← h3]
        have hl : t % 2 < (encX d[t / 2]!).length := by rw [encX_len]; omega
        rw [List.getElem?_eq_getElem hl, getElem!_pos (encX d[t / 2]!) (t % 2) hl]
      rw [Nat.zero_add]
      exact ⟨blk_at hblk hget, blk_frozen hblk t⟩
    have hn : 0 < L.length ∨ L = [] := by cases L with
      | nil => exact .inr rfl
      | cons x t => exact .inl (by simp)
    have eg : ∀ args w, (callFunc 96 args).run Try.prog w = .ok (.enter 96 args) w := enters_of Try.func96 (by kernel_rfl) rfl
    have hcon := Go.Proofs.AnyQ.slices_SortFunc lSort 2 Try.isAgg74 Try.sizeOf74 encX encX_len encX_one cfX swoX 96 #[] g 0 cap d W eg (cmpLaysX 0 d.size) hH hgl (by rw [hds]; omega)
    change Calls Try.prog 95 _ _ _ at hcon
    rw [hds] at hcon
    rw [hv]
    refine hcon.mono ?_
    rintro e w' ⟨rfl, d', n, os, hperm, hsort, rfl⟩
    have hds' : d'.size = d.size := hperm.1
    have hp : d'.toList.Perm d.toList := by
      have h1 := hperm.2.2
      rw [← hds] at h1
      rw [show d.extract 0 d.size = d by simp, show d'.extract 0 d.size = d' by rw [← hds']; simp] at h1
      exact h1
    have hdl : d.toList.map Cx.call = L := by
      refine List.ext_getElem (by simp [hds]) fun j h1 h2 => ?_
      rw [List.getElem_map, Array.getElem_toList, ← (hdc j h2).1, getElem!_pos]
    have hPl : (d'.toList.map Cx.call).length = L.length := by simp [hds', hds]
    refine ⟨rfl, some ⟨g, 0, none⟩, cap, d'.toList.map Cx.call, by rw [hPl], ?_, by rw [hPl]; exact hlc, ?_, ?_, below_sort hg n _ os hbase⟩
    · have hH' : HoldsK encX 2 (putRowK encX 2 (Go.Sort.ahead W n) g 0 d') g 0 d' := holds_putRow id (Go.Sort.ahead W n) g 0 (flatK encX 2 d) (flatK encX 2 d') (holds_ahead id W n g 0 _ hH) (by simp [hds'])
      refine ⟨rfl, by rw [hPl]; omega, fun _ => ⟨⟨g, 0, none⟩, rfl, fun j p hj => ?_⟩⟩
      obtain ⟨hjl, hjp⟩ := List.getElem?_eq_some_iff.1 hj
      have hjd : j < d'.size := by simpa using hjl
      have hpe : p = (d'[j]!).call := by rw [← hjp, List.getElem_map, Array.getElem_toList, getElem!_pos]
      have hC : (Kd.int .i64).C (sortWorldK encX 2 W g 0 n d' os) (d'[j]!).1.2.1 (d'[j]!).1.1.f1.length (d'[j]!).1.1.f1 := (d'[j]!).2.2.2 _ (sort_heap W n _ os)
      subst hpe
      refine ⟨encX d'[j]!, rfl, ⟨[.int .i64 (d'[j]!).1.1.f0], _, rfl, rfl, _, _, rfl, (d'[j]!).2.2.1, hC⟩, fun i u hu => ?_⟩
      have hi : i < 2 := by
        have := (List.getElem?_eq_some_iff.1 hu).1
        rwa [encX_len] at this
      have h5 := (Go.Sort.HoldsK.cell hH' hjd hi).1
      have h6 : (encX d'[j]!)[i]! = u := by
        obtain ⟨q1, q2⟩ := List.getElem?_eq_some_iff.1 hu
        rw [getElem!_pos (encX d'[j]!) i q1, q2]
      rw [h6] at h5
      have h7 : ((⟨g, 0, none⟩ : Addr).add (j * 2 + i)) = ⟨g, 0 + j * 2 + i, none⟩ := by simp [Addr.add]; omega
      show (grow (putRowK encX 2 (Go.Sort.ahead W n) g 0 d') os).cell? ((⟨g, 0, none⟩ : Addr).add (j * 2 + i)) = some u
      rw [h7]
      have hbg : g < (putRowK encX 2 (Go.Sort.ahead W n) g 0 d').heap.size := by
        show g < (putRow id (Go.Sort.ahead W n) g 0 _).heap.size
        rw [size_putRow]
        exact hgl
      rw [← h5]
      show World.cell? _ _ = World.cell? _ _
      unfold World.cell?
      have h8 : (grow (putRowK encX 2 (Go.Sort.ahead W n) g 0 d') os).heap[g]? = (putRowK encX 2 (Go.Sort.ahead W n) g 0 d').heap[g]? := by
        show ((putRowK encX 2 (Go.Sort.ahead W n) g 0 d').heap ++ os)[g]? = _
        rw [Array.getElem?_append, if_pos hbg]
      dsimp only
      rw [h8]
    · rw [← hdl]
      exact hp.map Cx.call
    · rw [List.pairwise_iff_getElem]
      intro i j hi hj hij
      have hi' : i < d'.size := by simpa using hi
      have hj' : j < d'.size := by simpa using hj
      have h1 := hsort i j (Nat.zero_le _) hij (by rw [← hds, ← hds']; exact hj')
      rw [ltX] at h1
      rw [List.getElem_map, List.getElem_map, Array.getElem_toList, Array.getElem_toList]
      rw [getElem!_pos d' j hj', getElem!_pos d' i hi'] at h1
      exact h1
def fromS (s : S74) : Ex × Int := (s.f1, s.f0)
theorem from_to (L : List S74) : toL (L.map fromS) = L := by
  induction L with
  | nil => rfl
  | cons x L ih =>
    show toS (fromS x) :: toL (L.map fromS) = _
    rw [ih]
    rfl
theorem to_from (c : Po) : (toL c).map fromS = c := by
  induction c with
  | nil => rfl
  | cons x c ih =>
    show fromS (toS x) :: (toL c).map fromS = _
    rw [ih]
    rfl
theorem sort_ok : SortOk := by
  intro W base v c h h8 hl hb
  refine (sort_S h (fun t ht => ?_) (by simpa [toL] using hl) hb).mono ?_
  · obtain ⟨x, hx, rfl⟩ := List.mem_map.1 (show t ∈ c.map toS from ht)
    exact h8 x hx
  · rintro e w' ⟨he, A, cp, P, hv, hC, hcp, hp, hs, hB⟩
    have hpl : (P.map fromS).length = P.length := List.length_map _
    refine ⟨he, A, cp, P.map fromS, by rw [hpl]; exact hv, by rw [hpl, from_to]; exact hC, by rw [hpl]; exact hcp, ?_, ?_, hB⟩
    · have := hp.map fromS
      rw [to_from] at this
      exact this
    · rw [List.pairwise_map]
      exact hs
end
section
open Go.RowKit Go.Maps Go.ChangeShapes Go.WideShapes Go.Proofs.Ytlidibbdacohaaa.PRingEquals Go.Proofs.YtlidibbdacohaaaW.PrintWords Go.Proofs.YtlidibbdacohaaaW.PrintLast Go.Proofs.YtlidibbdacohaaaW.PrintMore
set_option linter.unusedVariables false
set_option linter.unusedSimpArgs false

theorem copied_l0 {l : Po} (h8 : ∀ t ∈ l, t.1.length ≤ 1000) (hn : l.length ≤ 100000) : ∀ (d i : Nat), d + i = l.length → Ev (fun k => tenetref24_copied.l0 k (toL l) (toL (l.take i)) (i : Int)) (toL l)
  | 0, i, h => by
    have h1 : ¬ (i : Int) < ((toL l).length : Int) := by simp [toL]; omega
    refine Ev.step (fun k => tenetref24_copied.l0.eq_2 ..) ?_
    simp only [if_neg h1]
    rw [List.take_of_length_le (by omega)]
    exact Ev.now _
  | d + 1, i, h => by
    have hi : i < l.length := by omega
    have h0 : (0 : Int) ≤ (i : Int) := by omega
    have h1 : (i : Int) < ((toL l).length : Int) := by simp [toL]; omega
    have h2 := h8 _ (List.getElem_mem hi)
    have h3 : (([] : List Int).length + ((toS l[i]).f1).length) < 17592186044416 := by show (0 + (l[i].1).length) < _; omega
    have h4 : (toL (l.take i)).length < 4398046511104 := by simp [toL]; omega
    refine Ev.step (fun k => tenetref24_copied.l0.eq_2 ..) ?_
    simp only [if_pos h1, if_pos h0, rd_toL l i hi, Option.bind_some, if_pos h3, if_pos h4, wrap_nat (show i < 4398046511104 by omega), List.nil_append]
    have e : toL (l.take i) ++ [(⟨(toS l[i]).f0, (toS l[i]).f1⟩ : S74)] = toL (l.take (i + 1)) := by
      rw [List.take_succ_eq_append_getElem hi]
      unfold toL
      rw [List.map_append]
      rfl
    rw [e]
    exact copied_l0 h8 hn d (i + 1) (by omega)
theorem copied_ev {l : Po} (h8 : ∀ t ∈ l, t.1.length ≤ 1000) (hn : l.length ≤ 100000) : Ev (fun k => tenetref24_copied.f k (toL l)) (toL l) := copied_l0 h8 hn l.length 0 rfl
/-- What Normal answers. -/
def NoR (e : S24) (r : Po) (n : Int) : Prop := (¬ Vd e ∧ r = [] ∧ n = 4) ∨ (Vd e ∧ Nr e none ∧ r = [] ∧ n = 2) ∨ (Vd e ∧ Nr e (some r) ∧ NfE r ∧ n = 0)
theorem NoR.det {e : S24} {r r2 : Po} {n n2 : Int} (h : NoR e r n) (k : NoR e r2 n2) : r = r2 ∧ n = n2 := by
  rcases h with ⟨h, rfl, rfl⟩ | ⟨h, h2, rfl, rfl⟩ | ⟨h, h2, _, rfl⟩
  · rcases k with ⟨_, rfl, rfl⟩ | ⟨k, _⟩ | ⟨k, _⟩
    · exact ⟨rfl, rfl⟩
    · exact absurd k h
    · exact absurd k h
  · rcases k with ⟨k, _⟩ | ⟨_, _, rfl, rfl⟩ | ⟨_, k, _⟩
    · exact absurd h k
    · exact ⟨rfl, rfl⟩
    · have := h2.det k
      cases this
  · rcases k with ⟨k, _⟩ | ⟨_, k, _⟩ | ⟨_, k, _, rfl⟩
    · exact absurd h k
    · have := h2.det k
      cases this
    · have := h2.det k
      cases this
      exact ⟨rfl, rfl⟩
theorem NoR.len {e : S24} {r : Po} {n : Int} (h : NoR e r n) : (∀ t ∈ r, t.1.length = 8) ∧ r.length ≤ 200 := by
  rcases h with ⟨_, rfl, _⟩ | ⟨_, _, rfl, _⟩ | ⟨_, _, h, _⟩
  · exact ⟨fun t h => (by cases h), by simp⟩
  · exact ⟨fun t h => (by cases h), by simp⟩
  · exact ⟨h.nf.len, h.len⟩
/-- A row of monomials and an error, handed over. -/
def RetM (w' : World) (r : Po) (n : Int) (e : Ending) : Prop := ∃ A cp, e = .returned (.tuple #[.slice A r.length cp, .int .i64 n]) ∧ r.length ≤ cp ∧ k74.C w' A r.length (toL r)
theorem RetM.nil (w : World) (n : Int) : RetM w [] n (.returned (.tuple #[.slice none 0 0, .int .i64 n])) := ⟨none, 0, rfl, Nat.le_refl _, Kd.C_nil _ _⟩
/-- Two rows of the same monomials are told equal. -/
theorem monos_same {r : Po} (h8 : ∀ t ∈ r, t.1.length = 8) (hn : r.length ≤ 100000) (A B : Option Addr) (c d : Nat) (w : World) (hA : k74.C w A r.length (toL r)) (hc : r.length ≤ c) (hB : k74.C w B r.length (toL r)) (hd : r.length ≤ d) :
    Calls Try.prog 39 #[.slice A r.length c, .slice B r.length d] w fun e w' => e = .returned (.bool true) ∧ Below w.heap.size w w' := by
  obtain ⟨k, hk⟩ := EqMonos_ev (x := r) (y := r) hn h8 h8
  have e1 : (toL r).length = r.length := by simp [toL]
  have h := hk k (Nat.le_refl _)
  rw [decide_eq_true rfl] at h
  have := tenetref24_EqMonos.calls k A c (toL r) B d (toL r) true w (by rw [e1]; exact hA) (by rw [e1]; exact hc) (by rw [e1]; exact hB) (by rw [e1]; exact hd) h
  rw [e1] at this
  refine this.mono ?_
  rintro e w' ⟨h1, h2⟩
  exact ⟨h1, h2.below⟩
end
end Go.Proofs.Ytlidibbdacohaaa.R
