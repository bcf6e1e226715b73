import Derived.Test.YtlidibbdacohaaaR3
import Derived.Test.YtlidibbdacohaaaR2
/- The program's right: no number of an expression is above a number. The program's Valid. The program's normal: the normal form of an expression. The program's same: two polynomials' maps held against each other. The program's both and Equal. The program's Equal: what it answers, and the reference's with it. No condition. -/
namespace Go.Proofs.Ytlidibbdacohaaa.R
section
open Go.RowKit Go.Maps Go.ChangeShapes Go.WideShapes Go.MapKept Go.ChangeMaps Go.WideElems Go.Proofs.Ytlidibbdacohaaa.PRingEquals Go.Proofs.YtlidibbdacohaaaW.PrintWords Go.Proofs.YtlidibbdacohaaaW.PrintLast Go.Proofs.YtlidibbdacohaaaW.PrintMore
set_option linter.unusedVariables false
set_option linter.unusedSimpArgs false

mutual
def rgtT (top : Int) : S24 → Bool
  | ⟨op, n, l⟩ => !(decide (op = 1) && decide (n > top)) && rgtsT top l
def rgtsT (top : Int) : List S24 → Bool
  | [] => true
  | x :: l => rgtT top x && rgtsT top l
end
theorem rgtT_eq (top : Int) (e : S24) : rgtT top e = (!(decide (e.f0 = 1) && decide (e.f1 > top)) && rgtsT top e.f2) := by cases e; simp only [rgtT]
theorem rgtsT_nil (top : Int) : rgtsT top [] = true := by simp only [rgtsT]
theorem rgtsT_cons (top : Int) (x : S24) (l : List S24) : rgtsT top (x :: l) = (rgtT top x && rgtsT top l) := by simp only [rgtsT]
attribute [irreducible] rgtT rgtsT
theorem rgt_T : ∀ (N : Nat) (e : S24), nod e ≤ N → rgtT 1000000 e = rgt e
  | 0, e, h => by rw [nod_eq] at h; omega
  | N + 1, e, h => by
    rw [nod_eq] at h
    rw [rgtT_eq, rgt_eq]
    congr 1
    have : ∀ l : List S24, nods l ≤ N → rgtsT 1000000 l = rgts l := by
      intro l
      induction l with
      | nil => intro _; rw [rgtsT_nil]; simp [rgts]
      | cons x l ih =>
        intro hl
        rw [nods_cons] at hl
        rw [rgtsT_cons, rgt_T N x (by omega), ih (by omega)]
        simp [rgts]
    exact this e.f2 (by omega)
/-- The first element with a number above. -/
def idxR (top : Int) : List S24 → Nat → Int
  | [], _ => -1
  | x :: l, i => if rgtT top x = true then idxR top l (i + 1) else (i : Int)
theorem idxR_step {top : Int} {l : List S24} {i : Nat} (hi : i < l.length) : idxR top (l.drop i) i = if rgtT top l[i] = true then idxR top (l.drop (i + 1)) (i + 1) else (i : Int) := by
  rw [List.drop_eq_getElem_cons hi]
  rfl
theorem idxR_iff {top : Int} : ∀ (l : List S24) (i : Nat), (0 ≤ idxR top l i ↔ rgtsT top l = false)
  | [], i => by simp [idxR, rgtsT_nil]
  | x :: l, i => by
    rw [rgtsT_cons]
    unfold idxR
    cases h : rgtT top x with
    | true => simp only [if_true, Bool.true_and]; exact idxR_iff l (i + 1)
    | false => simp
/-- What right answers at an expression, wherever it lies. -/
def RightOk (top : Int) (x : S24) : Prop := ∀ (A : Option Addr) (c : Nat) (w : World), Kd.C k24 w A x.f2.length x.f2 → x.f2.length ≤ c → Calls Try.prog 76 #[.agg #[.int .i64 x.f0, .int .i64 x.f1, .slice A x.f2.length c], .int .i64 top] w fun e w' => e = .returned (.bool (rgtT top x)) ∧ Below w.heap.size w w'
set_option maxRecDepth 100000 in
theorem right1_calls {top : Int} {x : S24} (hx : RightOk top x) (A : Option Addr) (c tb : Nat) (w : World) (h : Kd.C k24 w A x.f2.length x.f2) (hc : x.f2.length ≤ c) (ht : w.cell? ⟨tb, 0, none⟩ = some (.int .i64 top)) :
    Calls Try.prog 98 #[.agg #[.int .i64 x.f0, .int .i64 x.f1, .slice A x.f2.length c], .pointer (some ⟨tb, 0, none⟩)] w fun e w' => e = .returned (.bool (!rgtT top x)) ∧ Below w.heap.size w w' := by
  have HC := Aside0.mk h
  have HX := Aside0.mk hx
  have HCC := Aside0.mk hc
  clear h hx hc
  have hlt := World.block_lt_of_cell? w _ ht
  have HB := Aside0.mk (below_alloc (Below.refl w.heap.size w) (.cells #[.int .i64 x.f0, .int .i64 x.f1, .slice A x.f2.length c] 24))
  have ht2 := Aside0.mk ((HB.out.cell hlt).trans ht)
  have hb := blk_new w (.cells #[.int .i64 x.f0, .int .i64 x.f1, .slice A x.f2.length c] 24)
  have z0 := blk_at (k := 0) hb rfl
  have z1 := blk_at (k := 1) hb rfl
  have z2 := blk_at (k := 2) hb rfl
  have ht3 := ht2.out
  clear ht hb hlt
  have hnot : ∀ (x : Bool) (w : World), (Op.unary .not (.bool x)).run Try.prog w = .ok (.bool (!x)) w := fun _ _ => rfl
  go_enter Try.func98, Try.ntmps98
  go_wp2_with (first | (go_at_call 76; refine (HX.out A c _ (Kd.C_below HC.out HB.out) HCC.out).mono ?_; rintro e w5 ⟨rfl, hb5⟩; have HB2 := Aside0.mk (below_step HB.out hb5); clear hb5))
  go_ret
  exact ⟨rfl, HB2.out⟩
set_option maxRecDepth 100000 in
theorem indexR_calls {top : Int} {l : List S24} (hx : ∀ x ∈ l, RightOk top x) (A : Option Addr) (c tb : Nat) (w : World) (h : Kd.C k24 w A l.length l) (hl : l.length ≤ 1000000) (ht : w.cell? ⟨tb, 0, none⟩ = some (.int .i64 top)) :
    Calls Try.prog 117 #[.slice A l.length c, .func (.func 98) #[] #[.pointer (some ⟨tb, 0, none⟩)]] w fun e w' => e = .returned (.int .i64 (idxR top l 0)) ∧ Below w.heap.size w w' := by
  have HC := Aside0.mk h
  have HLL := Aside0.mk hl
  have HX := Aside0.mk hx
  have HT := Aside0.mk ht
  clear h hl hx ht
  go_enter Try.func117, Try.ntmps117
  go_wp2
  go_loopg [8] l.length (fun kq v8 w' => ∃ (i : Nat), v8 = .int .i64 (i : Int) ∧ Aside0 (kq + i = l.length) ∧ Aside0 (idxR top l 0 = idxR top (l.drop i) i) ∧ Aside0 (Below w.heap.size w w'))
  case atStart => exact ⟨0, rfl, ⟨rfl⟩, ⟨rfl⟩, ⟨Below.refl _ _⟩⟩
  case round =>
    obtain ⟨i, rfl, HK, HI, HB⟩ := hrel
    by_cases hlt : i < l.length
    · have hdx : decide ((i : Int) < (l.length : Int)) = true := decide_eq_true (by omega)
      have hi0 : (0 : Int) ≤ (i : Int) := by omega
      have hil : (i : Int) < (l.length : Int) := by omega
      have hib : wrap64 ((i : Int) + 1) = (i : Int) + 1 := by have := HLL.out; unfold wrap64; omega
      obtain ⟨ad, A2, c2, e, q0, q1, q2, hl2, hi2⟩ := at_T24 (Kd.C_below HC.out HB.out) (i : Int) hi0 hil
      subst e
      rw [rd24 l i hlt, Int.toNat_natCast] at q0 q1 q2
      rw [rd24 l i hlt] at hl2 hi2
      have HX2 := Aside0.mk (fun w' (hc : Kd.C k24 w' A2 l[i].f2.length l[i].f2) (ht : w'.cell? ⟨tb, 0, none⟩ = some (.int .i64 top)) => right1_calls (HX.out l[i] (List.getElem_mem _)) A2 c2 tb w' hc hl2 ht)
      have HI2 := Aside0.mk hi2
      have HT2 := Aside0.mk ((HB.out.cell (World.block_lt_of_cell? w _ HT.out)).trans HT.out)
      have HN := Aside0.mk (idxR_step (top := top) hlt)
      clear hl2 hi2
      generalize hbb : rgtT top l[i] = bb at HX2 HN
      clear hbb
      cases bb with
      | true =>
        have HN2 := Aside0.mk (HN.out.trans (if_pos rfl))
        go_wp2_with (first | (go_at_call 98; refine (HX2.out _ HI2.out HT2.out).mono ?_; rintro e w5 ⟨rfl, hb5⟩; have HB2 := Aside0.mk (below_step HB.out hb5); clear hb5))
        go_roundg (l.length - i - 1)
        case measure => have := HK.out; omega
        case rel => exact ⟨i + 1, by go_num, ⟨by have := HK.out; omega⟩, ⟨HI.out.trans HN2.out⟩, HB2⟩
      | false =>
        have HN2 := Aside0.mk (HN.out.trans (if_neg (by decide)))
        go_wp2_with (first | (go_at_call 98; refine (HX2.out _ HI2.out HT2.out).mono ?_; rintro e w5 ⟨rfl, hb5⟩; have HB2 := Aside0.mk (below_step HB.out hb5); clear hb5))
        go_ret
        exact ⟨by rw [HI.out, HN2.out]; rfl, HB2.out⟩
    · have hdx : decide ((i : Int) < (l.length : Int)) = false := decide_eq_false (by omega)
      have HE := Aside0.mk (HI.out.trans (show idxR top (l.drop i) i = -1 by rw [List.drop_eq_nil_of_le (by omega)]; rfl))
      go_wp2
      go_ret
      exact ⟨by rw [HE.out]; rfl, HB.out⟩
set_option maxRecDepth 100000 in
theorem contains_calls {top : Int} {l : List S24} (hx : ∀ x ∈ l, RightOk top x) (A : Option Addr) (c tb : Nat) (w : World) (h : Kd.C k24 w A l.length l) (hl : l.length ≤ 1000000) (ht : w.cell? ⟨tb, 0, none⟩ = some (.int .i64 top)) :
    Calls Try.prog 97 #[.slice A l.length c, .func (.func 98) #[] #[.pointer (some ⟨tb, 0, none⟩)]] w fun e w' => e = .returned (.bool (!rgtsT top l)) ∧ Below w.heap.size w w' := by
  have HX := Aside0.mk (indexR_calls hx A c tb w h hl ht)
  have HR := Aside0.mk (show decide (0 ≤ idxR top l 0) = !rgtsT top l by
    have := idxR_iff (top := top) l 0
    cases hb : rgtsT top l with
    | true => simp [hb] at this; exact decide_eq_false (by omega)
    | false => simp [hb] at this; exact decide_eq_true this)
  clear hx h hl ht
  go_enter Try.func97, Try.ntmps97
  go_wp2_with (first | (go_at_call 117; refine HX.out.mono ?_; rintro e w5 ⟨rfl, hb5⟩; have HB2 := Aside0.mk hb5; clear hb5))
  go_ret
  exact ⟨by rw [← HR.out]; rfl, HB2.out⟩
set_option maxRecDepth 100000 in
theorem right_step {top : Int} {x : S24} (hx : ∀ y ∈ x.f2, RightOk top y) (hl : x.f2.length ≤ 1000000) : RightOk top x := by
  intro A c w h hc
  have HE := Aside0.mk (rgtT_eq top x)
  have e0 : (w.alloc (.cells #[.int .i64 x.f0, .int .i64 x.f1, .slice A x.f2.length c] 24)).heap.size = w.heap.size + 1 := World.size_alloc _ _
  have B1 := below_alloc (Below.refl w.heap.size w) (.cells #[.int .i64 x.f0, .int .i64 x.f1, .slice A x.f2.length c] 24)
  have B2 := below_step B1 (below_alloc (Below.refl (w.alloc (.cells #[.int .i64 x.f0, .int .i64 x.f1, .slice A x.f2.length c] 24)).heap.size (w.alloc (.cells #[.int .i64 x.f0, .int .i64 x.f1, .slice A x.f2.length c] 24))) (.cells #[.int .i64 top] 3))
  have hb := blk_below (blk_new w (.cells #[.int .i64 x.f0, .int .i64 x.f1, .slice A x.f2.length c] 24)) (below_alloc (Below.refl (w.alloc (.cells #[.int .i64 x.f0, .int .i64 x.f1, .slice A x.f2.length c] 24)).heap.size (w.alloc (.cells #[.int .i64 x.f0, .int .i64 x.f1, .slice A x.f2.length c] 24))) (.cells #[.int .i64 top] 3))
  have hb2 := blk_new (w.alloc (.cells #[.int .i64 x.f0, .int .i64 x.f1, .slice A x.f2.length c] 24)) (.cells #[.int .i64 top] 3)
  rw [e0] at hb2
  have z0 := blk_at (k := 0) hb rfl
  have z1 := blk_at (k := 1) hb rfl
  have z2 := blk_at (k := 2) hb rfl
  have z3 := blk_at (k := 0) hb2 rfl
  have HX := Aside0.mk (contains_calls hx A c (w.heap.size + 1) _ (Kd.C_below h B2) hl z3)
  have HB := Aside0.mk B2
  clear hx h hc hl hb hb2 B1 B2 e0
  have hmf : ∀ (fn : Fn) (first cap : Array Value) (w : World), (Instr.makeFunc fn first cap).run Try.prog w = .ok (.func fn first cap) w := fun _ _ _ _ => rfl
  have hnot : ∀ (x : Bool) (w : World), (Op.unary .not (.bool x)).run Try.prog w = .ok (.bool (!x)) w := fun _ _ => rfl
  go_enter Try.func76, Try.ntmps76
  by_cases h1 : x.f0 = 1
  · have c1 : (x.f0 == 1) = true := beq_iff_eq.2 h1
    have H1 := Aside0.mk h1
    clear h1
    by_cases h2 : x.f1 > top
    · have c2 : decide (top < x.f1) = true := decide_eq_true h2
      have H2 := Aside0.mk h2
      clear h2
      go_wp2
      go_ret
      exact ⟨by rw [HE.out, decide_eq_true H1.out, decide_eq_true H2.out]; rfl, HB.out⟩
    · have c2 : decide (top < x.f1) = false := decide_eq_false h2
      have H2 := Aside0.mk h2
      clear h2
      go_wp2_with (first | (go_at_call 97; refine HX.out.mono ?_; rintro e w5 ⟨rfl, hb5⟩; have HB2 := Aside0.mk (below_step HB.out hb5); clear hb5))
      go_ret
      exact ⟨by rw [HE.out, decide_eq_true H1.out, decide_eq_false (show ¬ x.f1 > top by have := H2.out; omega)]; simp, HB2.out⟩
  · have c1 : (x.f0 == 1) = false := beq_false_of_ne h1
    have H1 := Aside0.mk h1
    clear h1
    go_wp2_with (first | (go_at_call 97; refine HX.out.mono ?_; rintro e w5 ⟨rfl, hb5⟩; have HB2 := Aside0.mk (below_step HB.out hb5); clear hb5))
    go_ret
    exact ⟨by rw [HE.out, decide_eq_false H1.out]; simp, HB2.out⟩
theorem nods_len : ∀ l : List S24, l.length ≤ nods l
  | [] => Nat.zero_le _
  | x :: l => by
    have h1 := nods_len l
    have h2 := nod_eq x
    rw [nods_cons, List.length_cons]
    omega
theorem right_all (top : Int) : ∀ (N : Nat) (x : S24), nod x ≤ N → N ≤ 100000 → RightOk top x
  | 0, x, h, _ => by rw [nod_eq] at h; omega
  | N + 1, x, h, hN => by
    rw [nod_eq] at h
    exact right_step (fun y hy => right_all top N y (by have := nod_mem hy; omega) (by omega)) (by have := nods_len x.f2; omega)
/-- What Valid answers. -/
def ValidOk (x : S24) (b : Bool) : Prop := ∀ (A : Option Addr) (c : Nat) (w : World), Kd.C k24 w A x.f2.length x.f2 → x.f2.length ≤ c → Calls Try.prog 37 #[.agg #[.int .i64 x.f0, .int .i64 x.f1, .slice A x.f2.length c]] w fun e w' => e = .returned (.bool b) ∧ Below w.heap.size w w'
set_option maxRecDepth 100000 in
theorem valid_calls (x : S24) (hn : nod x ≤ 100000) : ∃ b, (b = true ↔ Vd x) ∧ ValidOk x b := by
  obtain ⟨k1, h1⟩ := sizeOf_ev x hn
  obtain ⟨fb, hfb, ⟨k2, h2⟩⟩ := formedP_ev x
  have h1 := h1 k1 (Nat.le_refl _)
  have h2 := h2 k2 (Nat.le_refl _)
  have HRI := Aside0.mk (right_all 1000000 _ x (Nat.le_refl _) hn)
  refine ⟨decide (nod x ≤ 60) && (decide (dep x ≤ 12) && (fb && rgtT 1000000 x)), ?_, ?_⟩
  · simp only [Bool.and_eq_true, decide_eq_true_eq]
    unfold Vd
    rw [fm_iff, hfb, rgt_T _ x (Nat.le_refl _)]
  · intro A c w hA hc
    have HA := Aside0.mk hA
    have HC := Aside0.mk hc
    have H1 := Aside0.mk h1
    have H2 := Aside0.mk h2
    have B1 := Aside0.mk (below_alloc (Below.refl w.heap.size w) (.cells #[.int .i64 x.f0, .int .i64 x.f1, .slice A x.f2.length c] 24))
    have G1 := Aside0.mk (blk_new w (.cells #[.int .i64 x.f0, .int .i64 x.f1, .slice A x.f2.length c] 24))
    have z0 := blk_at (k := 0) G1.out rfl
    have z1 := blk_at (k := 1) G1.out rfl
    have z2 := blk_at (k := 2) G1.out rfl
    clear hfb hA hc h1 h2
    generalize hr : rgtT 1000000 x = rb at *
    have HR := Aside0.mk hr
    clear hr
    generalize hnn : nod x = n at *
    generalize hdd : dep x = d at *
    have hn1 : decide (n ≤ 60) = decide ((n : Int) ≤ 60) := decide_eq_decide.2 (by omega)
    have hd1 : decide (d ≤ 12) = decide ((d : Int) ≤ 12) := decide_eq_decide.2 (by omega)
    rw [hn1, hd1]
    clear hn1 hd1 hnn hdd
    go_enter Try.func37, Try.ntmps37
    clear h1 h2 hn
    by_cases c1 : (n : Int) ≤ 60
    · have d1 : decide ((n : Int) ≤ 60) = true := decide_eq_true c1
      clear c1
      by_cases c2 : (d : Int) ≤ 12
      · have d2 : decide ((d : Int) ≤ 12) = true := decide_eq_true c2
        clear c2
        cases fb with
        | true =>
          go_wp2_with (first | (go_at_call 59; refine (ring_sizeOf.calls k1 x.f0 x.f1 A c x.f2 n d _ (Kd.C_below HA.out B1.out) HC.out H1.out).mono ?_; rintro e w5 ⟨rfl, hb5⟩; have B2 := Aside0.mk (below_step B1.out hb5); have G2 := Aside0.mk (blk_below G1.out hb5); clear hb5; have y0 := blk_at (k := 0) G2.out rfl; have y1 := blk_at (k := 1) G2.out rfl; have y2 := blk_at (k := 2) G2.out rfl))
          refine (ring_formed.calls k2 x.f0 x.f1 A c x.f2 true _ (Kd.C_below HA.out B2.out) HC.out H2.out).mono ?_
          rintro e w6 ⟨rfl, hb6⟩
          have B3 := Aside0.mk (below_step B2.out hb6)
          have G3 := Aside0.mk (blk_below G2.out hb6)
          clear hb6 y0 y1 y2
          have x0 := blk_at (k := 0) G3.out rfl
          have x1 := blk_at (k := 1) G3.out rfl
          have x2 := blk_at (k := 2) G3.out rfl
          go_wp2_with (first | (go_at_call 59; skip))
          refine (HRI.out A c _ (Kd.C_below HA.out B3.out) HC.out).mono ?_
          rintro e w7 ⟨rfl, hb7⟩
          have B4 := Aside0.mk (below_step B3.out hb7)
          clear hb7
          go_wp2
          go_ret
          exact ⟨by rw [d1, d2, HR.out]; rfl, B4.out⟩
        | false =>
          go_wp2_with (first | (go_at_call 59; refine (ring_sizeOf.calls k1 x.f0 x.f1 A c x.f2 n d _ (Kd.C_below HA.out B1.out) HC.out H1.out).mono ?_; rintro e w5 ⟨rfl, hb5⟩; have B2 := Aside0.mk (below_step B1.out hb5); have G2 := Aside0.mk (blk_below G1.out hb5); clear hb5; have y0 := blk_at (k := 0) G2.out rfl; have y1 := blk_at (k := 1) G2.out rfl; have y2 := blk_at (k := 2) G2.out rfl))
          refine (ring_formed.calls k2 x.f0 x.f1 A c x.f2 false _ (Kd.C_below HA.out B2.out) HC.out H2.out).mono ?_
          rintro e w6 ⟨rfl, hb6⟩
          have B3 := Aside0.mk (below_step B2.out hb6)
          have G3 := Aside0.mk (blk_below G2.out hb6)
          clear hb6 y0 y1 y2
          have x0 := blk_at (k := 0) G3.out rfl
          have x1 := blk_at (k := 1) G3.out rfl
          have x2 := blk_at (k := 2) G3.out rfl
          go_wp2
          go_ret
          exact ⟨by rw [d1, d2]; rfl, B3.out⟩
      · have d2 : decide ((d : Int) ≤ 12) = false := decide_eq_false c2
        clear c2
        go_wp2_with (first | (go_at_call 59; refine (ring_sizeOf.calls k1 x.f0 x.f1 A c x.f2 n d _ (Kd.C_below HA.out B1.out) HC.out H1.out).mono ?_; rintro e w5 ⟨rfl, hb5⟩; have B2 := Aside0.mk (below_step B1.out hb5); have G2 := Aside0.mk (blk_below G1.out hb5); clear hb5; have y0 := blk_at (k := 0) G2.out rfl; have y1 := blk_at (k := 1) G2.out rfl; have y2 := blk_at (k := 2) G2.out rfl))
        go_ret
        exact ⟨by rw [d1, d2]; rfl, B2.out⟩
    · have d1 : decide ((n : Int) ≤ 60) = false := decide_eq_false c1
      clear c1
      go_wp2_with (first | (go_at_call 59; refine (ring_sizeOf.calls k1 x.f0 x.f1 A c x.f2 n d _ (Kd.C_below HA.out B1.out) HC.out H1.out).mono ?_; rintro e w5 ⟨rfl, hb5⟩; have B2 := Aside0.mk (below_step B1.out hb5); have G2 := Aside0.mk (blk_below G1.out hb5); clear hb5; have y0 := blk_at (k := 0) G2.out rfl; have y1 := blk_at (k := 1) G2.out rfl; have y2 := blk_at (k := 2) G2.out rfl))
      go_ret
      exact ⟨by rw [d1]; rfl, B2.out⟩
/-- A polynomial handed over, or that there is none. -/
def Gives (r : Option Po) (e : Ending) (w' : World) : Prop := (∃ mb l, r = some l ∧ e = .returned (.tuple #[.map (some mb), .bool true]) ∧ PM w' mb l) ∨ (r = none ∧ e = .returned (.tuple #[.map none, .bool false]))
/-- What normal answers. -/
def NormOk (x : S24) (r : Option Po) : Prop := ∀ (A : Option Addr) (c : Nat) (w : World), Kd.C k24 w A x.f2.length x.f2 → x.f2.length ≤ c → Calls Try.prog 72 #[.agg #[.int .i64 x.f0, .int .i64 x.f1, .slice A x.f2.length c]] w fun e w' => Below w.heap.size w w' ∧ Gives r e w'
theorem put_new {W : World} {mb : Nat} (h : PM W mb []) {e : Ex} (he : ExOk e) {n : Int} (h0 : 0 < n) (h1 : n ≤ 1000000000000000) : ∃ W2, (Instr.mapUpdate 65 (.map (some mb)) (vE e) (.int .i64 n)).run Try.prog W = .ok () W2 ∧ PM W2 mb [(e, n)] ∧ W.grownBy W2 (some mb) := by
  have := PM.put h (by simp) he h0 (by simp [co]; omega)
  simp only [co, Int.zero_add] at this
  exact this
set_option maxRecDepth 100000 in
theorem norm_num {n : Int} (h0 : 0 ≤ n) (h1 : n ≤ 1000000) : NormOk ⟨1, n, []⟩ (some (numF n)) := by
  intro A c w hA hc
  have hmm := @run_makeMap Try.prog
  have hb := blk_new w (.cells #[.int .i64 1, .int .i64 n, .slice A 0 c] 24)
  have z0 := blk_at (k := 0) hb rfl
  have z1 := blk_at (k := 1) hb rfl
  have z2 := blk_at (k := 2) hb rfl
  have B1 := below_alloc (Below.refl w.heap.size w) (.cells #[.int .i64 1, .int .i64 n, .slice A 0 c] 24)
  have P2 := PM.new (w.alloc (.cells #[.int .i64 1, .int .i64 n, .slice A 0 c] 24))
  have B2 := Aside0.mk (below_step B1 (below_alloc (Below.refl (w.alloc (.cells #[.int .i64 1, .int .i64 n, .slice A 0 c] 24)).heap.size (w.alloc (.cells #[.int .i64 1, .int .i64 n, .slice A 0 c] 24))) (.map #[] 0)))
  have e0 : (w.alloc (.cells #[.int .i64 1, .int .i64 n, .slice A 0 c] 24)).heap.size = w.heap.size + 1 := World.size_alloc _ _
  rw [e0] at P2
  clear hb B1
  by_cases hn : n = 0
  · have hP := Aside0.mk P2
    subst hn
    go_enter Try.func72, Try.ntmps72
    go_wp2
    go_ret2
    exact ⟨B2.out, .inl ⟨w.heap.size + 1, [], rfl, rfl, hP.out⟩⟩
  · have c1 : (n == 0) = false := beq_false_of_ne hn
    obtain ⟨W3, hput, hp3, hg3⟩ := put_new P2 ex_zeros (n := n) (by omega) (by omega)
    have HP := Aside0.mk hp3
    have HB := Aside0.mk (B2.out.grown hg3 B2.out.size (fun k e => by injection e with e; omega))
    have HN := Aside0.mk (show some (numF n) = some [(zeros8, n)] by unfold numF; rw [if_neg hn])
    have z3 := blk_at (k := 1) (blk_alloc (blk_new w (.cells #[.int .i64 1, .int .i64 n, .slice A 0 c] 24)) (.map #[] 0)) rfl
    clear hp3 hg3 P2 hn
    unfold vE at hput
    obtain ⟨cz, hcz⟩ : ∃ cz, cz = cE zeros8 := ⟨_, rfl⟩
    rw [← hcz] at hput
    have HCZ := Aside0.mk hcz
    clear hcz
    go_enter Try.func72, Try.ntmps72
    go_wp2_with (first | ((with_reducible refine gate_build (t := 81) rfl ?_); refine run_law (by rfl) (.agg cz) ?hr ?_; (case hr => rw [HCZ.out]; first | (go_simp; done) | (go_simp; rfl))))
    go_ret2
    exact ⟨HB.out, .inl ⟨w.heap.size + 1, _, HN.out, rfl, HP.out⟩⟩
theorem ex_set {i : Nat} (hi : i < 8) : (cE zeros8)[i]? = some (.int .i64 0) := by
  rw [cE_at (by simp [zeros8]) hi]
  have : i = 0 ∨ i = 1 ∨ i = 2 ∨ i = 3 ∨ i = 4 ∨ i = 5 ∨ i = 6 ∨ i = 7 := by omega
  rcases this with rfl | rfl | rfl | rfl | rfl | rfl | rfl | rfl <;> rfl
set_option maxRecDepth 100000 in
theorem norm_var {n : Int} (h0 : 0 ≤ n) (h1 : n < 8) : NormOk ⟨2, n, []⟩ (some (varF n)) := by
  intro A c w hA hc
  obtain ⟨m, rfl⟩ : ∃ m : Nat, n = (m : Int) := ⟨n.toNat, by omega⟩
  have hm : m < 8 := by omega
  have hmm := @run_makeMap Try.prog
  have hb := blk_new w (.cells #[.int .i64 2, .int .i64 (m : Int), .slice A 0 c] 24)
  have e0 : (w.alloc (.cells #[.int .i64 2, .int .i64 (m : Int), .slice A 0 c] 24)).heap.size = w.heap.size + 1 := World.size_alloc _ _
  have B1 := below_alloc (Below.refl w.heap.size w) (.cells #[.int .i64 2, .int .i64 (m : Int), .slice A 0 c] 24)
  have B2 := below_step B1 (below_alloc (Below.refl (w.alloc (.cells #[.int .i64 2, .int .i64 (m : Int), .slice A 0 c] 24)).heap.size (w.alloc (.cells #[.int .i64 2, .int .i64 (m : Int), .slice A 0 c] 24))) (.cells (cE zeros8) 81))
  have G2 := blk_new (w.alloc (.cells #[.int .i64 2, .int .i64 (m : Int), .slice A 0 c] 24)) (.cells (cE zeros8) 81)
  rw [e0] at G2
  have hb2 := blk_alloc hb (.cells (cE zeros8) 81)
  have z0 := blk_at (k := 0) hb rfl
  have z1 := blk_at (k := 1) hb2 rfl
  have z2 := blk_at (k := 2) hb rfl
  have q0 := blk_at G2 (ex_set hm)
  have q1 := blk_fro (k := m) G2
  obtain ⟨cu, hcu⟩ : ∃ cu, (cE zeros8).setIfInBounds m (.int .i64 1) = cu := ⟨_, rfl⟩
  have HCU := Aside0.mk (show cu = cE (zeros8.set m 1) by rw [← hcu]; exact cE_set zeros8 m 1)
  have B3 := below_step B1 (below_alloc (Below.refl (w.alloc (.cells #[.int .i64 2, .int .i64 (m : Int), .slice A 0 c] 24)).heap.size (w.alloc (.cells #[.int .i64 2, .int .i64 (m : Int), .slice A 0 c] 24))) (.cells cu 81))
  have e1 : ((w.alloc (.cells #[.int .i64 2, .int .i64 (m : Int), .slice A 0 c] 24)).alloc (.cells cu 81)).heap.size = w.heap.size + 1 + 1 := by rw [World.size_alloc, e0]
  have P4 := PM.new ((w.alloc (.cells #[.int .i64 2, .int .i64 (m : Int), .slice A 0 c] 24)).alloc (.cells cu 81))
  have B4 := below_step B3 (below_alloc (Below.refl ((w.alloc (.cells #[.int .i64 2, .int .i64 (m : Int), .slice A 0 c] 24)).alloc (.cells cu 81)).heap.size ((w.alloc (.cells #[.int .i64 2, .int .i64 (m : Int), .slice A 0 c] 24)).alloc (.cells cu 81))) (.map #[] 0))
  have G4 := blk_alloc (blk_new (w.alloc (.cells #[.int .i64 2, .int .i64 (m : Int), .slice A 0 c] 24)) (.cells cu 81)) (.map #[] 0)
  rw [e0] at G4
  rw [e1] at P4
  obtain ⟨W5, hput, hp5, hg5⟩ := put_new P4 (ex_unit m) (n := 1) (by omega) (by omega)
  have HP := Aside0.mk hp5
  have HG := Aside0.mk G4
  have HB := Aside0.mk (B4.grown hg5 B4.size (fun k e => by injection e with e; omega))
  have HV := Aside0.mk (show some (varF (m : Int)) = some [(zeros8.set m 1, 1)] by unfold varF; rw [Int.toNat_natCast])
  have H8 := Aside0.mk (show cu.size = 8 by rw [HCU.out, cE_size]; exact (ex_unit m).1)
  unfold vE at hput
  rw [← HCU.out] at hput
  obtain ⟨cz, hcz⟩ : ∃ cz, cz = cE zeros8 := ⟨_, rfl⟩
  rw [← hcz] at hb2 z1 q0 q1 hcu
  have HCZ := Aside0.mk hcz
  clear hcz G2 B2 B1 hb hb2 e0 e1 B3 P4 B4 G4 hp5 hg5
  have hi0 : (0 : Int) ≤ (m : Int) := by omega
  have hi8 : (m : Int) < 8 := by omega
  go_enter Try.func72, Try.ntmps72
  go_wp2_with (first | ((with_reducible refine gate_alloc (t := 81) rfl ?_); refine alloc_zero rfl rfl cz (fun w => by rw [HCZ.out]; exact zero81 w) ?_) | ((with_reducible refine gate_load (t := 81) (x := .tmp 4) rfl ?_); refine run_law (by rfl) (.agg cu) (load_run (ty := 81) (x := .tmp 4) (b := w.heap.size + 1) (t := 81) (cs := cu) ?h1 ?h2 HG.out ?h3 Try.underlying81 ?h4) ?_; (case h1 => rfl); (case h2 => rfl); (case h3 => rfl); (case h4 => rw [H8.out]; kernel_rfl)))
  go_ret2
  exact ⟨HB.out, .inl ⟨w.heap.size + 1 + 1, _, HV.out, rfl, HP.out⟩⟩
/-- The same, the values under names. -/
def GivesV (r : Option Po) (e : Ending) (w' : World) : Prop := ∃ v bo, e = .returned (.tuple #[.map v, .bool bo]) ∧ bo = r.isSome ∧ (r = none → v = none) ∧ ∀ l, r = some l → ∃ mb, v = some mb ∧ PM w' mb l
theorem gives_v {r : Option Po} {e : Ending} {w' : World} (h : Gives r e w') : GivesV r e w' := by
  rcases h with ⟨mb, l, rfl, rfl, hp⟩ | ⟨rfl, rfl⟩
  · exact ⟨_, _, rfl, rfl, (fun h => by cases h), fun l2 h2 => by cases h2; exact ⟨mb, rfl, hp⟩⟩
  · exact ⟨_, _, rfl, rfl, (fun _ => rfl), fun l2 h2 => by cases h2⟩
theorem v_gives {r : Option Po} {e : Ending} {w' : World} (h : GivesV r e w') : Gives r e w' := by
  obtain ⟨v, bo, rfl, rfl, h1, h2⟩ := h
  cases r with
  | none =>
    rw [h1 rfl]
    exact .inr ⟨rfl, rfl⟩
  | some l =>
    obtain ⟨mb, rfl, hp⟩ := h2 l rfl
    exact .inl ⟨mb, l, rfl, rfl, hp⟩
set_option maxRecDepth 100000 in
set_option maxHeartbeats 4000000 in
theorem norm_two {op : Int} {a b : S24} {ra rb r : Option Po} (hop : op = 3 ∨ op = 4) (ha : NormOk a ra) (hb : NormOk b rb) (wa : ∀ l, ra = some l → NfE l) (wb : ∀ l, rb = some l → NfE l)
    (h1 : ra = none ∨ rb = none → r = none) (h2 : ∀ x y, ra = some x → rb = some y → (op = 3 → r = addF x y) ∧ (op = 4 → r = mulF x y)) : NormOk ⟨op, 0, [a, b]⟩ r := by
  intro A c w hA hc
  obtain ⟨ad, A1, c1, e1, p0, p1, p2, hc1, hA1⟩ := at_T24 hA 0 (by omega) (by simp)
  obtain ⟨ad2, A2, c2, e2, q0, q1, q2, hc2, hA2⟩ := at_T24 hA 1 (by omega) (by simp)
  subst e1
  injection e2 with e2
  subst e2
  change w.cell? (ad.add 0) = _ at p0
  change w.cell? ⟨(ad.add 0).block, (ad.add 0).off + 1, none⟩ = _ at p1
  change w.cell? ⟨(ad.add 0).block, (ad.add 0).off + 2, none⟩ = _ at p2
  change w.cell? (ad.add 3) = _ at q0
  change w.cell? ⟨(ad.add 3).block, (ad.add 3).off + 1, none⟩ = _ at q1
  change w.cell? ⟨(ad.add 3).block, (ad.add 3).off + 2, none⟩ = _ at q2
  rw [Addr.add_zero'] at p0 p1 p2
  have e3 : ad.add 3 = ⟨ad.block, ad.off + 3, none⟩ := by simp [Addr.add]
  rw [e3] at q0 q1 q2
  rw [(rd2 a b).1] at p0 p1 p2 hc1 hA1
  rw [(rd2 a b).2] at q0 q1 q2 hc2 hA2
  change k24.C w (some ad) 2 [a, b] at hA
  change 2 ≤ c at hc
  show Calls Try.prog 72 #[.agg #[.int .i64 op, .int .i64 0, .slice (some ad) 2 c]] w _
  have B1 := Aside0.mk (below_alloc (Below.refl w.heap.size w) (.cells #[.int .i64 op, .int .i64 0, .slice (some ad) 2 c] 24))
  have G1 := Aside0.mk (blk_new w (.cells #[.int .i64 op, .int .i64 0, .slice (some ad) 2 c] 24))
  have z0 := blk_at (k := 0) G1.out rfl
  have z1 := blk_at (k := 1) G1.out rfl
  have z2 := blk_at (k := 2) G1.out rfl
  have R0 := Aside0.mk q0
  have R1 := Aside0.mk q1
  have R2 := Aside0.mk q2
  have x0 := (B1.out.cell (World.block_lt_of_cell? w _ p0)).trans p0
  have x1 := (B1.out.cell (World.block_lt_of_cell? w _ p1)).trans p1
  have x2 := (B1.out.cell (World.block_lt_of_cell? w _ p2)).trans p2
  have HA := Aside0.mk ha
  have HBB := Aside0.mk hb
  have HA1 := Aside0.mk hA1
  have HA2 := Aside0.mk hA2
  have HC1 := Aside0.mk hc1
  have HC2 := Aside0.mk hc2
  have WA := Aside0.mk wa
  have WB := Aside0.mk wb
  have H1 := Aside0.mk h1
  have H2 := Aside0.mk h2
  have o1 : (op == 1) = false := beq_false_of_ne (by omega)
  have o2 : (op == 2) = false := beq_false_of_ne (by omega)
  have HOP := Aside0.mk hop
  clear ha hb hA hc p0 p1 p2 q0 q1 q2 hc1 hA1 hc2 hA2 wa wb h1 h2 hop
  go_enter Try.func72, Try.ntmps72
  cases ra with
  | none =>
    go_wp2_with (first | (go_at_call 59; skip))
    refine (HA.out A1 c1 _ (Kd.C_below HA1.out B1.out) HC1.out).mono ?_
    rintro e w5 ⟨hb5, hgv5⟩
    obtain ⟨v5, bo5, rfl, hbo5, hv5, hp5⟩ := gives_v hgv5
    clear hgv5
    subst hbo5
    have B5 := Aside0.mk (below_step B1.out hb5)
    have G5 := Aside0.mk (blk_below G1.out hb5)
    have P5 := Aside0.mk hp5
    have V5 := Aside0.mk hv5
    clear hb5 hp5 hv5
    have y0 := blk_at (k := 0) G5.out rfl
    have y1 := blk_at (k := 1) G5.out rfl
    have y2 := blk_at (k := 2) G5.out rfl
    have r0 := (B5.out.cell (World.block_lt_of_cell? w _ R0.out)).trans R0.out
    have r1 := (B5.out.cell (World.block_lt_of_cell? w _ R1.out)).trans R1.out
    have r2 := (B5.out.cell (World.block_lt_of_cell? w _ R2.out)).trans R2.out
    go_wp2_with (first | (go_at_call 59; skip))
    refine (HBB.out A2 c2 _ (Kd.C_below HA2.out B5.out) HC2.out).mono ?_
    rintro e w6 ⟨hb6, hgv6⟩
    obtain ⟨v6, bo6, rfl, hbo6, hv6, hp6⟩ := gives_v hgv6
    clear hgv6
    subst hbo6
    have B6 := Aside0.mk (below_step B5.out hb6)
    have D6 := Aside0.mk hb6
    have G6 := Aside0.mk (blk_below G5.out hb6)
    have P6 := Aside0.mk hp6
    have V6 := Aside0.mk hv6
    clear hb6 hp6 hv6 y0 y1 y2 r0 r1 r2
    have t0 := blk_at (k := 0) G6.out rfl
    have t1 := blk_at (k := 1) G6.out rfl
    have t2 := blk_at (k := 2) G6.out rfl
    go_wp2
    go_ret2
    exact ⟨B6.out, .inr ⟨H1.out (.inl trivial), rfl⟩⟩
  | some x =>
    cases rb with
    | none =>
      go_wp2_with (first | (go_at_call 59; skip))
      refine (HA.out A1 c1 _ (Kd.C_below HA1.out B1.out) HC1.out).mono ?_
      rintro e w5 ⟨hb5, hgv5⟩
      obtain ⟨v5, bo5, rfl, hbo5, hv5, hp5⟩ := gives_v hgv5
      clear hgv5
      subst hbo5
      have B5 := Aside0.mk (below_step B1.out hb5)
      have G5 := Aside0.mk (blk_below G1.out hb5)
      have P5 := Aside0.mk hp5
      have V5 := Aside0.mk hv5
      clear hb5 hp5 hv5
      have y0 := blk_at (k := 0) G5.out rfl
      have y1 := blk_at (k := 1) G5.out rfl
      have y2 := blk_at (k := 2) G5.out rfl
      have r0 := (B5.out.cell (World.block_lt_of_cell? w _ R0.out)).trans R0.out
      have r1 := (B5.out.cell (World.block_lt_of_cell? w _ R1.out)).trans R1.out
      have r2 := (B5.out.cell (World.block_lt_of_cell? w _ R2.out)).trans R2.out
      go_wp2_with (first | (go_at_call 59; skip))
      refine (HBB.out A2 c2 _ (Kd.C_below HA2.out B5.out) HC2.out).mono ?_
      rintro e w6 ⟨hb6, hgv6⟩
      obtain ⟨v6, bo6, rfl, hbo6, hv6, hp6⟩ := gives_v hgv6
      clear hgv6
      subst hbo6
      have B6 := Aside0.mk (below_step B5.out hb6)
      have D6 := Aside0.mk hb6
      have G6 := Aside0.mk (blk_below G5.out hb6)
      have P6 := Aside0.mk hp6
      have V6 := Aside0.mk hv6
      clear hb6 hp6 hv6 y0 y1 y2 r0 r1 r2
      have t0 := blk_at (k := 0) G6.out rfl
      have t1 := blk_at (k := 1) G6.out rfl
      have t2 := blk_at (k := 2) G6.out rfl
      go_wp2
      go_ret2
      exact ⟨B6.out, .inr ⟨H1.out (.inr trivial), rfl⟩⟩
    | some y =>
      go_wp2_with (first | (go_at_call 59; skip))
      refine (HA.out A1 c1 _ (Kd.C_below HA1.out B1.out) HC1.out).mono ?_
      rintro e w5 ⟨hb5, hgv5⟩
      obtain ⟨v5, bo5, rfl, hbo5, hv5, hp5⟩ := gives_v hgv5
      clear hgv5
      subst hbo5
      have B5 := Aside0.mk (below_step B1.out hb5)
      have G5 := Aside0.mk (blk_below G1.out hb5)
      have P5 := Aside0.mk hp5
      have V5 := Aside0.mk hv5
      clear hb5 hp5 hv5
      have y0 := blk_at (k := 0) G5.out rfl
      have y1 := blk_at (k := 1) G5.out rfl
      have y2 := blk_at (k := 2) G5.out rfl
      have r0 := (B5.out.cell (World.block_lt_of_cell? w _ R0.out)).trans R0.out
      have r1 := (B5.out.cell (World.block_lt_of_cell? w _ R1.out)).trans R1.out
      have r2 := (B5.out.cell (World.block_lt_of_cell? w _ R2.out)).trans R2.out
      go_wp2_with (first | (go_at_call 59; skip))
      refine (HBB.out A2 c2 _ (Kd.C_below HA2.out B5.out) HC2.out).mono ?_
      rintro e w6 ⟨hb6, hgv6⟩
      obtain ⟨v6, bo6, rfl, hbo6, hv6, hp6⟩ := gives_v hgv6
      clear hgv6
      subst hbo6
      have B6 := Aside0.mk (below_step B5.out hb6)
      have D6 := Aside0.mk hb6
      have G6 := Aside0.mk (blk_below G5.out hb6)
      have P6 := Aside0.mk hp6
      have V6 := Aside0.mk hv6
      clear hb6 hp6 hv6 y0 y1 y2 r0 r1 r2
      have t0 := blk_at (k := 0) G6.out rfl
      have t1 := blk_at (k := 1) G6.out rfl
      have t2 := blk_at (k := 2) G6.out rfl
      obtain ⟨ma, hma, hpa⟩ := P5.out x rfl
      obtain ⟨mb, hmb, hpb⟩ := P6.out y rfl
      subst hma
      subst hmb
      have PA := Aside0.mk (show PM w6 ma x from hpa.same (D6.out.block ma hpa.lt))
      have PB := Aside0.mk hpb
      clear hpa hpb P5 P6 V5 V6
      rcases HOP.out with h3 | h4
      · have c3 : (op == 3) = true := beq_iff_eq.2 h3
        have HE := Aside0.mk ((H2.out x y rfl rfl).1 h3)
        clear h3
        go_wp2_with (first | (go_at_call 59; skip))
        refine (plus_calls ma mb x y _ PA.out PB.out (WA.out x rfl) (WB.out y rfl)).mono ?_
        rintro e w7 ⟨hb7, hg7⟩
        obtain ⟨v7, bo7, rfl, hbo7, hv7, hp7⟩ := gives_v (show Gives (addF x y) e w7 from hg7)
        have B7 := Aside0.mk (below_step B6.out hb7)
        have G7 := Aside0.mk (show GivesV (addF x y) (.returned (.tuple #[.map v7, .bool bo7])) w7 from ⟨v7, bo7, rfl, hbo7, hv7, hp7⟩)
        clear hb7 hbo7 hv7 hp7 hg7
        go_wp2
        go_ret2
        exact ⟨B7.out, by rw [HE.out]; exact v_gives G7.out⟩
      · have c3 : (op == 3) = false := beq_false_of_ne (by omega)
        have HE := Aside0.mk ((H2.out x y rfl rfl).2 h4)
        clear h4
        go_wp2_with (first | (go_at_call 59; skip))
        refine (product_calls ma mb x y _ PA.out PB.out (WA.out x rfl) (WB.out y rfl)).mono ?_
        rintro e w7 ⟨hb7, hg7⟩
        obtain ⟨v7, bo7, rfl, hbo7, hv7, hp7⟩ := gives_v (show Gives (mulF x y) e w7 from hg7)
        have B7 := Aside0.mk (below_step B6.out hb7)
        have G7 := Aside0.mk (show GivesV (mulF x y) (.returned (.tuple #[.map v7, .bool bo7])) w7 from ⟨v7, bo7, rfl, hbo7, hv7, hp7⟩)
        clear hb7 hbo7 hv7 hp7 hg7
        go_wp2
        go_ret2
        exact ⟨B7.out, by rw [HE.out]; exact v_gives G7.out⟩
theorem norm_all {e : S24} (h : Fm e) : ∃ r, Nr e r ∧ (∀ l, r = some l → NfE l) ∧ NormOk e r := by
  induction h with
  | @num n h0 h1 =>
    refine ⟨some (numF n), .num, fun l hl => ?_, norm_num h0 h1⟩
    cases hl
    unfold numF
    split
    · exact nfe_nil
    · exact nfe_one ex_zeros (by omega) (by omega)
  | @var n h0 h1 =>
    refine ⟨some (varF n), .var, fun l hl => ?_, norm_var h0 h1⟩
    cases hl
    exact nfe_one (ex_unit _) (by omega) (by omega)
  | @add a b ha hb iha ihb =>
    obtain ⟨ra, na, wa, oa⟩ := iha
    obtain ⟨rb, nb, wb, ob⟩ := ihb
    cases ra with
    | none => exact ⟨none, .left (.inl rfl) na, (fun l hl => by cases hl), norm_two (.inl rfl) oa ob wa wb (fun _ => rfl) (fun x y h _ => by cases h)⟩
    | some x =>
      cases rb with
      | none => exact ⟨none, .right (.inl rfl) na nb, (fun l hl => by cases hl), norm_two (.inl rfl) oa ob wa wb (fun _ => rfl) (fun x y _ h => by cases h)⟩
      | some y => exact ⟨addF x y, .add na nb, fun l hl => addF_nfe (wa x rfl) (wb y rfl) hl, norm_two (.inl rfl) oa ob wa wb (fun h => by rcases h with h | h <;> cases h) (fun x2 y2 h1 h2 => by
          injection h1 with h1
          injection h2 with h2
          subst h1 h2
          exact ⟨fun h => by first | rfl | (exact absurd h (by decide)), fun h => by first | rfl | (exact absurd h (by decide))⟩)⟩
  | @mul a b ha hb iha ihb =>
    obtain ⟨ra, na, wa, oa⟩ := iha
    obtain ⟨rb, nb, wb, ob⟩ := ihb
    cases ra with
    | none => exact ⟨none, .left (.inr rfl) na, (fun l hl => by cases hl), norm_two (.inr rfl) oa ob wa wb (fun _ => rfl) (fun x y h _ => by cases h)⟩
    | some x =>
      cases rb with
      | none => exact ⟨none, .right (.inr rfl) na nb, (fun l hl => by cases hl), norm_two (.inr rfl) oa ob wa wb (fun _ => rfl) (fun x y _ h => by cases h)⟩
      | some y => exact ⟨mulF x y, .mul na nb, fun l hl => mulF_nfe (wa x rfl) (wb y rfl) hl, norm_two (.inr rfl) oa ob wa wb (fun h => by rcases h with h | h <;> cases h) (fun x2 y2 h1 h2 => by
          injection h1 with h1
          injection h2 with h2
          subst h1 h2
          exact ⟨fun h => by first | rfl | (exact absurd h (by decide)), fun h => by first | rfl | (exact absurd h (by decide))⟩)⟩
/-- The normal form is one. -/
theorem Nr.det {e : S24} {r : Option Po} (h : Nr e r) : ∀ {r2 : Option Po}, Nr e r2 → r = r2 := by
  induction h with
  | num => intro r2 h2; cases h2 with
    | num => rfl
  | var => intro r2 h2; cases h2 with
    | var => rfl
  | add ha hb iha ihb => intro r2 h2; cases h2 with
    | add a2 b2 =>
      have e1 := iha a2
      have e2 := ihb b2
      cases e1
      cases e2
      rfl
    | left _ a2 => have e1 := iha a2; cases e1
    | right _ a2 b2 => have e2 := ihb b2; cases e2
  | mul ha hb iha ihb => intro r2 h2; cases h2 with
    | mul a2 b2 =>
      have e1 := iha a2
      have e2 := ihb b2
      cases e1
      cases e2
      rfl
    | left _ a2 => have e1 := iha a2; cases e1
    | right _ a2 b2 => have e2 := ihb b2; cases e2
  | left _ ha iha => intro r2 h2; cases h2 with
    | add a2 b2 => have e1 := iha a2; cases e1
    | mul a2 b2 => have e1 := iha a2; cases e1
    | left => rfl
    | right => rfl
  | right _ ha hb iha ihb => intro r2 h2; cases h2 with
    | add a2 b2 => have e1 := ihb b2; cases e1
    | mul a2 b2 => have e1 := ihb b2; cases e1
    | left => rfl
    | right => rfl
theorem same_terms {x y : Po} (hx : Nf x) (hy : Nf y) (h : ∀ t ∈ x, co y t.1 = t.2) (hl : x.length = y.length) : x = y := by
  refine Nf.ext hx hy (fun e => ?_)
  have hle : ∀ e, co x e ≤ co y e := fun e => by
    by_cases h0 : co x e = 0
    · rw [h0]; exact co_nonneg hy.pos e
    · have := h _ (hx.co_some h0)
      simp only at this
      omega
  by_cases h0 : co x e = 0
  · by_cases h1 : co y e = 0
    · rw [h0, h1]
    · exfalso
      have h2 := hy.co_some h1
      have h3 := hy.len _ h2
      have h4 := hy.pos _ h2
      have h5 := ins_len (t := (e, co y e)) h3 hx
      rw [if_pos h0] at h5
      have h6 := len_mono (ins_nf (t := (e, co y e)) h3 h4 hx) hy (fun e2 => by
        rw [ins_co (t := (e, co y e)) h3 e2 hx]
        by_cases he : e = e2
        · subst he
          rw [if_pos rfl, h0]
          simp
        · rw [if_neg he, Int.add_zero]
          exact hle e2)
      omega
  · exact (h _ (hx.co_some h0)).symm
set_option maxRecDepth 100000 in
set_option maxHeartbeats 4000000 in
theorem same_calls (ba bb : Nat) (x y : Po) (w : World) (hA : PM w ba x) (hB : PM w bb y) (hx : NfE x) (hy : NfE y) :
    Calls Try.prog 51 #[.map (some ba), .map (some bb)] w fun r w' => r = .returned (.bool (decide (x = y))) ∧ Below w.heap.size w w' := by
  have HB := Aside0.mk hB
  have HX := Aside0.mk hx
  have HY := Aside0.mk hy
  have HNA := Aside0.mk hA.lt
  obtain ⟨w2, hrange, hpr, hg2, hs2⟩ := hA.range
  have B2 := Aside0.mk (show Below w.heap.size w w2 from (Below.refl _ _).grown hg2 (Nat.le_refl _) (fun k e => by cases e))
  have R2 := Aside0.mk hpr
  clear hA hB hx hy hpr hg2 hs2
  go_enter Try.func51, Try.ntmps51
  go_wp2
  clear hrange
  go_loopg [] x.length (fun kq w3 => ∃ (lf : Ex → Bool), Aside0 (PR w3 ba w.heap.size x lf kq) ∧ Aside0 (Below w.heap.size w w3) ∧ Aside0 (∀ t ∈ x, lf t.1 = false → co y t.1 = t.2))
  case atStart => exact ⟨_, R2, B2, ⟨fun t _ h => by cases h⟩⟩
  case round =>
    clear R2 B2
    obtain ⟨lf, R3, B3, D3⟩ := hrel
    rcases R3.out.next 0 with ⟨h0, hall, hrun⟩ | ⟨t, ht, w4, cnt2, hlf, hrun, hpr, hlt2, hg4, hs4, hen⟩
    · have hl1 := fun ty => R3.out.owns.size ty
      have hl2 := fun ty => (PM_below HB.out B3.out).size ty
      have HE := Aside0.mk (show ((x.length : Int) == (y.length : Int)) = decide (x = y) by
        by_cases hl : x.length = y.length
        · have := same_terms HX.out.nf HY.out.nf (fun t ht => D3.out t ht (hall t ht)) hl
          rw [decide_eq_true this, this]
          exact beq_self_eq_true _
        · rw [decide_eq_false (fun e => hl (by rw [e]))]
          exact beq_false_of_ne (by omega))
      clear hall h0
      go_wp2
      go_ret
      exact ⟨by rw [← HE.out]; rfl, B3.out⟩
    · have HCN := Aside0.mk hlt2
      have B4 := Aside0.mk (B3.out.grown hg4 B3.out.size (fun k e => by injection e with e; omega))
      have R4 := Aside0.mk hpr
      have B5 := Aside0.mk (below_step B4.out (below_alloc (Below.refl w4.heap.size w4) (.cells (cE t.1) 81)))
      have R5 := Aside0.mk (R4.out.kept (World.grownBy_alloc w4 (.cells (cE t.1) 81) none) (by simp) (by simp))
      have G5 := Aside0.mk (blk_new w4 (.cells (cE t.1) 81))
      have hlook := (PM_below HB.out B5.out).look (HX.out.ex t ht)
      have HSZ := Aside0.mk (show (cE t.1).size = 8 by rw [cE_size]; exact (HX.out.ex t ht).1)
      have HONE := Aside0.mk (cE_one t.1)
      have HNE := Aside0.mk (fun (h : co y t.1 ≠ t.2) => show decide (x = y) = false from decide_eq_false (fun e => h (by rw [← e]; exact HX.out.nf.co_mem ht)))
      have HEQ := Aside0.mk (fun (h : co y t.1 = t.2) => show ∀ q ∈ x, (lf q.1 && !decide (q.1 = t.1)) = false → co y q.1 = q.2 from fun q hq hl2 => by
        by_cases e1 : q.1 = t.1
        · have a1 := HX.out.nf.co_mem hq
          have a2 := HX.out.nf.co_mem ht
          rw [e1] at a1 ⊢
          rw [h, ← a2, a1]
        · exact D3.out q hq (by simpa [e1] using hl2))
      clear hpr hg4 hs4 hlt2 ht hlf
      unfold vE at *
      generalize hce : cE t.1 = ce at *
      generalize ht2 : t.2 = c at *
      generalize hcy : co y t.1 = d at *
      clear hce ht2 hcy
      by_cases hd : d = c
      · have hdn : (d != c) = false := bne_eq_false_iff_eq.mpr hd
        have HQ := Aside0.mk (HEQ.out hd)
        clear hd
        go_wp2_with (first | ((with_reducible refine gate_alloc (t := 81) rfl ?_); refine alloc_zero rfl rfl (cE zeros8) zero81 ?_) | ((with_reducible refine gate_store (t := 81) (p := 5) rfl ?_); refine store_last rfl rfl rfl _ 81 _ ce (by rfl) (by rfl) rfl (by rw [HSZ.out]; kernel_rfl) (by rw [HSZ.out]; rfl) HONE.out ?_) | ((with_reducible refine gate_load (t := 81) (x := .tmp 5) rfl ?_); refine run_law (by rfl) (.agg ce) (load_run (ty := 81) (x := .tmp 5) (b := w4.heap.size) (t := 81) (cs := ce) ?h1 ?h2 G5.out ?h3 Try.underlying81 ?h4) ?_; (case h1 => rfl); (case h2 => rfl); (case h3 => rfl); (case h4 => rw [HSZ.out]; kernel_rfl)))
        go_roundg cnt2
        case measure => exact HCN.out
        case rel => exact ⟨_, R5, B5, HQ⟩
      · have hdn : (d != c) = true := bne_iff_ne.mpr hd
        have HQ := Aside0.mk (HNE.out hd)
        clear hd
        go_wp2_with (first | ((with_reducible refine gate_alloc (t := 81) rfl ?_); refine alloc_zero rfl rfl (cE zeros8) zero81 ?_) | ((with_reducible refine gate_store (t := 81) (p := 5) rfl ?_); refine store_last rfl rfl rfl _ 81 _ ce (by rfl) (by rfl) rfl (by rw [HSZ.out]; kernel_rfl) (by rw [HSZ.out]; rfl) HONE.out ?_) | ((with_reducible refine gate_load (t := 81) (x := .tmp 5) rfl ?_); refine run_law (by rfl) (.agg ce) (load_run (ty := 81) (x := .tmp 5) (b := w4.heap.size) (t := 81) (cs := ce) ?h1 ?h2 G5.out ?h3 Try.underlying81 ?h4) ?_; (case h1 => rfl); (case h2 => rfl); (case h3 => rfl); (case h4 => rw [HSZ.out]; kernel_rfl)))
        go_ret
        exact ⟨by rw [HQ.out]; rfl, B5.out⟩
/-- Two blocks that hold the arguments. -/
structure Bx (w W : World) (ca cb : Array Value) : Prop where
  below : Below w.heap.size w W
  g1 : W.heap[w.heap.size]? = some (.cells ca 24 (0, 0))
  g2 : W.heap[w.heap.size + 1]? = some (.cells cb 24 (0, 0))
theorem Bx.start (w : World) (ca cb : Array Value) : Bx w ((w.alloc (.cells ca 24)).alloc (.cells cb 24)) ca cb := by
  have e0 : (w.alloc (.cells ca 24)).heap.size = w.heap.size + 1 := World.size_alloc _ _
  have h2 := blk_new (w.alloc (.cells ca 24)) (.cells cb 24)
  rw [e0] at h2
  exact ⟨below_step (below_alloc (Below.refl _ _) _) (below_alloc (Below.refl _ _) _), blk_alloc (blk_new w (.cells ca 24)) _, h2⟩
theorem Bx.go {w W W2 : World} {ca cb : Array Value} (h : Bx w W ca cb) (hb : Below W.heap.size W W2) : Bx w W2 ca cb := ⟨below_step h.below hb, blk_below h.g1 hb, blk_below h.g2 hb⟩
/-- A struct's value. -/
abbrev sV (x : S24) (A : Option Addr) (c : Nat) : Array Value := #[.int .i64 x.f0, .int .i64 x.f1, .slice A x.f2.length c]
section
variable {a b : S24} {A B : Option Addr} {c d : Nat} {w : World} {va vb : Bool}
set_option maxRecDepth 100000 in
set_option maxHeartbeats 4000000 in
theorem both_bad (hva : ValidOk a va) (hvb : ValidOk b vb) (hv : (va && vb) = false) (hA : Kd.C k24 w A a.f2.length a.f2) (hc : a.f2.length ≤ c) (hB : Kd.C k24 w B b.f2.length b.f2) (hd : b.f2.length ≤ d) :
    Calls Try.prog 50 #[.agg (sV a A c), .agg (sV b B d)] w fun e w' => e = .returned (.tuple #[.map none, .map none, .int .i64 4]) ∧ Below w.heap.size w w' := by
  have B2 := Aside0.mk (Bx.start w (sV a A c) (sV b B d))
  have x0 := blk_at (k := 0) B2.out.g1 rfl
  have x1 := blk_at (k := 1) B2.out.g1 rfl
  have x2 := blk_at (k := 2) B2.out.g1 rfl
  have HA := Aside0.mk hA
  have HB := Aside0.mk hB
  have HC := Aside0.mk hc
  have HD := Aside0.mk hd
  have HVA := Aside0.mk hva
  have HVB := Aside0.mk hvb
  have HV := Aside0.mk hv
  clear hA hB hc hd hva hvb hv
  go_enter Try.func50, Try.ntmps50
  go_wp2_with (first | (go_at_call 59; skip))
  refine (HVA.out A c _ (Kd.C_below HA.out B2.out.below) HC.out).mono ?_
  rintro e w5 ⟨rfl, hb5⟩
  have B5 := Aside0.mk (B2.out.go hb5)
  clear hb5
  have y0 := blk_at (k := 0) B5.out.g2 rfl
  have y1 := blk_at (k := 1) B5.out.g2 rfl
  have y2 := blk_at (k := 2) B5.out.g2 rfl
  cases va with
  | false =>
    go_wp2
    go_ret3
    exact ⟨rfl, B5.out.below⟩
  | true =>
    have hvb : vb = false := by have := HV.out; simpa using this
    subst hvb
    go_wp2_with (first | (go_at_call 59; skip))
    refine (HVB.out B d _ (Kd.C_below HB.out B5.out.below) HD.out).mono ?_
    rintro e w6 ⟨rfl, hb6⟩
    have B6 := Aside0.mk (B5.out.go hb6)
    clear hb6
    go_wp2
    go_ret3
    exact ⟨rfl, B6.out.below⟩
variable {ra rb : Option Po}
set_option maxRecDepth 100000 in
set_option maxHeartbeats 4000000 in
theorem both_none (hva : ValidOk a true) (hvb : ValidOk b true) (hna : NormOk a ra) (hnb : NormOk b rb) (hv : ra = none ∨ rb = none) (hA : Kd.C k24 w A a.f2.length a.f2) (hc : a.f2.length ≤ c) (hB : Kd.C k24 w B b.f2.length b.f2) (hd : b.f2.length ≤ d) :
    Calls Try.prog 50 #[.agg (sV a A c), .agg (sV b B d)] w fun e w' => e = .returned (.tuple #[.map none, .map none, .int .i64 2]) ∧ Below w.heap.size w w' := by
  have B2 := Aside0.mk (Bx.start w (sV a A c) (sV b B d))
  have x0 := blk_at (k := 0) B2.out.g1 rfl
  have x1 := blk_at (k := 1) B2.out.g1 rfl
  have x2 := blk_at (k := 2) B2.out.g1 rfl
  have HA := Aside0.mk hA
  have HB := Aside0.mk hB
  have HC := Aside0.mk hc
  have HD := Aside0.mk hd
  have HVA := Aside0.mk hva
  have HVB := Aside0.mk hvb
  have HNA := Aside0.mk hna
  have HNB := Aside0.mk hnb
  have HV := Aside0.mk hv
  clear hA hB hc hd hva hvb hna hnb hv
  cases ra with
  | none =>
    go_enter Try.func50, Try.ntmps50
    go_wp2_with (first | (go_at_call 59; skip))
    refine (HVA.out A c _ (Kd.C_below HA.out B2.out.below) HC.out).mono ?_
    rintro e w5 ⟨rfl, hb5⟩
    have B5 := Aside0.mk (B2.out.go hb5)
    clear hb5
    have y0 := blk_at (k := 0) B5.out.g2 rfl
    have y1 := blk_at (k := 1) B5.out.g2 rfl
    have y2 := blk_at (k := 2) B5.out.g2 rfl
    go_wp2_with (first | (go_at_call 59; skip))
    refine (HVB.out B d _ (Kd.C_below HB.out B5.out.below) HD.out).mono ?_
    rintro e w6 ⟨rfl, hb6⟩
    have B6 := Aside0.mk (B5.out.go hb6)
    clear hb6 y0 y1 y2 x0 x1 x2
    have x0 := blk_at (k := 0) B6.out.g1 rfl
    have x1 := blk_at (k := 1) B6.out.g1 rfl
    have x2 := blk_at (k := 2) B6.out.g1 rfl
    go_wp2_with (first | (go_at_call 59; skip))
    refine (HNA.out A c _ (Kd.C_below HA.out B6.out.below) HC.out).mono ?_
    rintro e w7 ⟨hb7, hgv7⟩
    obtain ⟨v7, bo7, rfl, hbo7, hv7, hp7⟩ := gives_v hgv7
    clear hgv7
    subst hbo7
    have B7 := Aside0.mk (B6.out.go hb7)
    have P7 := Aside0.mk hp7
    clear hb7 hp7 hv7 x0 x1 x2
    have y0 := blk_at (k := 0) B7.out.g2 rfl
    have y1 := blk_at (k := 1) B7.out.g2 rfl
    have y2 := blk_at (k := 2) B7.out.g2 rfl
    go_wp2_with (first | (go_at_call 59; skip))
    refine (HNB.out B d _ (Kd.C_below HB.out B7.out.below) HD.out).mono ?_
    rintro e w8 ⟨hb8, hgv8⟩
    obtain ⟨v8, bo8, rfl, hbo8, hv8, hp8⟩ := gives_v hgv8
    clear hgv8
    subst hbo8
    have B8 := Aside0.mk (B7.out.go hb8)
    have D8 := Aside0.mk hb8
    have P8 := Aside0.mk hp8
    clear hb8 hp8 hv8 y0 y1 y2
    go_wp2
    go_ret3
    exact ⟨rfl, B8.out.below⟩
  | some x =>
    cases rb with
    | some y => exact absurd HV.out (by simp)
    | none =>
      go_enter Try.func50, Try.ntmps50
      go_wp2_with (first | (go_at_call 59; skip))
      refine (HVA.out A c _ (Kd.C_below HA.out B2.out.below) HC.out).mono ?_
      rintro e w5 ⟨rfl, hb5⟩
      have B5 := Aside0.mk (B2.out.go hb5)
      clear hb5
      have y0 := blk_at (k := 0) B5.out.g2 rfl
      have y1 := blk_at (k := 1) B5.out.g2 rfl
      have y2 := blk_at (k := 2) B5.out.g2 rfl
      go_wp2_with (first | (go_at_call 59; skip))
      refine (HVB.out B d _ (Kd.C_below HB.out B5.out.below) HD.out).mono ?_
      rintro e w6 ⟨rfl, hb6⟩
      have B6 := Aside0.mk (B5.out.go hb6)
      clear hb6 y0 y1 y2 x0 x1 x2
      have x0 := blk_at (k := 0) B6.out.g1 rfl
      have x1 := blk_at (k := 1) B6.out.g1 rfl
      have x2 := blk_at (k := 2) B6.out.g1 rfl
      go_wp2_with (first | (go_at_call 59; skip))
      refine (HNA.out A c _ (Kd.C_below HA.out B6.out.below) HC.out).mono ?_
      rintro e w7 ⟨hb7, hgv7⟩
      obtain ⟨v7, bo7, rfl, hbo7, hv7, hp7⟩ := gives_v hgv7
      clear hgv7
      subst hbo7
      have B7 := Aside0.mk (B6.out.go hb7)
      have P7 := Aside0.mk hp7
      clear hb7 hp7 hv7 x0 x1 x2
      have y0 := blk_at (k := 0) B7.out.g2 rfl
      have y1 := blk_at (k := 1) B7.out.g2 rfl
      have y2 := blk_at (k := 2) B7.out.g2 rfl
      go_wp2_with (first | (go_at_call 59; skip))
      refine (HNB.out B d _ (Kd.C_below HB.out B7.out.below) HD.out).mono ?_
      rintro e w8 ⟨hb8, hgv8⟩
      obtain ⟨v8, bo8, rfl, hbo8, hv8, hp8⟩ := gives_v hgv8
      clear hgv8
      subst hbo8
      have B8 := Aside0.mk (B7.out.go hb8)
      have D8 := Aside0.mk hb8
      have P8 := Aside0.mk hp8
      clear hb8 hp8 hv8 y0 y1 y2
      go_wp2
      go_ret3
      exact ⟨rfl, B8.out.below⟩
set_option maxRecDepth 100000 in
set_option maxHeartbeats 4000000 in
theorem both_some {x y : Po} (hva : ValidOk a true) (hvb : ValidOk b true) (hna : NormOk a (some x)) (hnb : NormOk b (some y)) (hA : Kd.C k24 w A a.f2.length a.f2) (hc : a.f2.length ≤ c) (hB : Kd.C k24 w B b.f2.length b.f2) (hd : b.f2.length ≤ d) :
    Calls Try.prog 50 #[.agg (sV a A c), .agg (sV b B d)] w fun e w' => ∃ ma mb, e = .returned (.tuple #[.map (some ma), .map (some mb), .int .i64 0]) ∧ PM w' ma x ∧ PM w' mb y ∧ Below w.heap.size w w' := by
  have B2 := Aside0.mk (Bx.start w (sV a A c) (sV b B d))
  have x0 := blk_at (k := 0) B2.out.g1 rfl
  have x1 := blk_at (k := 1) B2.out.g1 rfl
  have x2 := blk_at (k := 2) B2.out.g1 rfl
  have HA := Aside0.mk hA
  have HB := Aside0.mk hB
  have HC := Aside0.mk hc
  have HD := Aside0.mk hd
  have HVA := Aside0.mk hva
  have HVB := Aside0.mk hvb
  have HNA := Aside0.mk hna
  have HNB := Aside0.mk hnb
  clear hA hB hc hd hva hvb hna hnb
  go_enter Try.func50, Try.ntmps50
  go_wp2_with (first | (go_at_call 59; skip))
  refine (HVA.out A c _ (Kd.C_below HA.out B2.out.below) HC.out).mono ?_
  rintro e w5 ⟨rfl, hb5⟩
  have B5 := Aside0.mk (B2.out.go hb5)
  clear hb5
  have y0 := blk_at (k := 0) B5.out.g2 rfl
  have y1 := blk_at (k := 1) B5.out.g2 rfl
  have y2 := blk_at (k := 2) B5.out.g2 rfl
  go_wp2_with (first | (go_at_call 59; skip))
  refine (HVB.out B d _ (Kd.C_below HB.out B5.out.below) HD.out).mono ?_
  rintro e w6 ⟨rfl, hb6⟩
  have B6 := Aside0.mk (B5.out.go hb6)
  clear hb6 y0 y1 y2 x0 x1 x2
  have x0 := blk_at (k := 0) B6.out.g1 rfl
  have x1 := blk_at (k := 1) B6.out.g1 rfl
  have x2 := blk_at (k := 2) B6.out.g1 rfl
  go_wp2_with (first | (go_at_call 59; skip))
  refine (HNA.out A c _ (Kd.C_below HA.out B6.out.below) HC.out).mono ?_
  rintro e w7 ⟨hb7, hgv7⟩
  obtain ⟨v7, bo7, rfl, hbo7, hv7, hp7⟩ := gives_v hgv7
  clear hgv7
  subst hbo7
  have B7 := Aside0.mk (B6.out.go hb7)
  have P7 := Aside0.mk hp7
  clear hb7 hp7 hv7 x0 x1 x2
  have y0 := blk_at (k := 0) B7.out.g2 rfl
  have y1 := blk_at (k := 1) B7.out.g2 rfl
  have y2 := blk_at (k := 2) B7.out.g2 rfl
  go_wp2_with (first | (go_at_call 59; skip))
  refine (HNB.out B d _ (Kd.C_below HB.out B7.out.below) HD.out).mono ?_
  rintro e w8 ⟨hb8, hgv8⟩
  obtain ⟨v8, bo8, rfl, hbo8, hv8, hp8⟩ := gives_v hgv8
  clear hgv8
  subst hbo8
  have B8 := Aside0.mk (B7.out.go hb8)
  have D8 := Aside0.mk hb8
  have P8 := Aside0.mk hp8
  clear hb8 hp8 hv8 y0 y1 y2
  obtain ⟨ma, hma, hpa⟩ := P7.out x rfl
  obtain ⟨mb, hmb, hpb⟩ := P8.out y rfl
  subst hma
  subst hmb
  have PA := Aside0.mk (show PM w8 ma x from hpa.same (D8.out.block ma hpa.lt))
  have PB := Aside0.mk hpb
  clear hpa hpb P7 P8
  go_wp2
  go_ret3
  exact ⟨ma, mb, rfl, PA.out, PB.out, B8.out.below⟩
end
section
variable {a b : S24} {A B : Option Addr} {c d : Nat} {w : World} {va vb : Bool}
/-- Where both gives no two polynomials. -/
theorem equal_no {n : Int} (hn : n = 2 ∨ n = 4) (H : ∀ (w : World), Kd.C k24 w A a.f2.length a.f2 → Kd.C k24 w B b.f2.length b.f2 → Calls Try.prog 50 #[.agg (sV a A c), .agg (sV b B d)] w fun e w' => e = .returned (.tuple #[.map none, .map none, .int .i64 n]) ∧ Below w.heap.size w w') (hA : Kd.C k24 w A a.f2.length a.f2) (hc : a.f2.length ≤ c) (hB : Kd.C k24 w B b.f2.length b.f2) (hd : b.f2.length ≤ d) :
    Calls Try.prog 17 #[.agg (sV a A c), .agg (sV b B d)] w fun e w' => e = .returned (.tuple #[.bool false, .int .i64 n]) ∧ Below w.heap.size w w' := by
  have B2 := Aside0.mk (Bx.start w (sV a A c) (sV b B d))
  have x0 := blk_at (k := 0) B2.out.g1 rfl
  have x1 := blk_at (k := 1) B2.out.g1 rfl
  have x2 := blk_at (k := 2) B2.out.g1 rfl
  have y0 := blk_at (k := 0) B2.out.g2 rfl
  have y1 := blk_at (k := 1) B2.out.g2 rfl
  have y2 := blk_at (k := 2) B2.out.g2 rfl
  have HA := Aside0.mk (Kd.C_below hA B2.out.below)
  have HB := Aside0.mk (Kd.C_below hB B2.out.below)
  have HC := Aside0.mk hc
  have HD := Aside0.mk hd
  have HH := Aside0.mk H
  have c1 : (n == 0) = false := beq_false_of_ne (by omega)
  clear hA hB hc hd H hn
  go_enter Try.func17, Try.ntmps17
  go_wp2_with (first | (go_at_call 59; skip))
  refine (HH.out _ HA.out HB.out).mono ?_
  rintro e w5 ⟨rfl, hb5⟩
  have B5 := Aside0.mk (B2.out.go hb5)
  clear hb5
  go_wp2
  go_ret2
  exact ⟨rfl, B5.out.below⟩
theorem equal_yes {x y : Po} (hx : NfE x) (hy : NfE y) (H : ∀ (w : World), Kd.C k24 w A a.f2.length a.f2 → Kd.C k24 w B b.f2.length b.f2 → Calls Try.prog 50 #[.agg (sV a A c), .agg (sV b B d)] w fun e w' => ∃ ma mb, e = .returned (.tuple #[.map (some ma), .map (some mb), .int .i64 0]) ∧ PM w' ma x ∧ PM w' mb y ∧ Below w.heap.size w w') (hA : Kd.C k24 w A a.f2.length a.f2) (hc : a.f2.length ≤ c) (hB : Kd.C k24 w B b.f2.length b.f2) (hd : b.f2.length ≤ d) :
    Calls Try.prog 17 #[.agg (sV a A c), .agg (sV b B d)] w fun e w' => e = .returned (.tuple #[.bool (decide (x = y)), .int .i64 0]) ∧ Below w.heap.size w w' := by
  have B2 := Aside0.mk (Bx.start w (sV a A c) (sV b B d))
  have x0 := blk_at (k := 0) B2.out.g1 rfl
  have x1 := blk_at (k := 1) B2.out.g1 rfl
  have x2 := blk_at (k := 2) B2.out.g1 rfl
  have y0 := blk_at (k := 0) B2.out.g2 rfl
  have y1 := blk_at (k := 1) B2.out.g2 rfl
  have y2 := blk_at (k := 2) B2.out.g2 rfl
  have HA := Aside0.mk (Kd.C_below hA B2.out.below)
  have HB := Aside0.mk (Kd.C_below hB B2.out.below)
  have HC := Aside0.mk hc
  have HD := Aside0.mk hd
  have HH := Aside0.mk H
  have HX := Aside0.mk hx
  have HY := Aside0.mk hy
  clear hA hB hc hd H hx hy
  go_enter Try.func17, Try.ntmps17
  go_wp2_with (first | (go_at_call 59; skip))
  refine (HH.out _ HA.out HB.out).mono ?_
  rintro e w5 ⟨ma, mb, rfl, hpa, hpb, hb5⟩
  have B5 := Aside0.mk (B2.out.go hb5)
  have PA := Aside0.mk hpa
  have PB := Aside0.mk hpb
  clear hb5 hpa hpb
  go_wp2_with (first | (go_at_call 59; skip))
  refine (same_calls ma mb x y _ PA.out PB.out HX.out HY.out).mono ?_
  rintro e w6 ⟨rfl, hb6⟩
  have B6 := Aside0.mk (B5.out.go hb6)
  clear hb6
  go_wp2
  go_ret2
  exact ⟨rfl, B6.out.below⟩
end
/-- What Equal answers. -/
def EqR (a b : S24) (r1 : Bool) (r2 : Int) : Prop := (¬ (Vd a ∧ Vd b) ∧ r1 = false ∧ r2 = 4) ∨ (Vd a ∧ Vd b ∧ ∃ ra rb, Nr a ra ∧ Nr b rb ∧ (((ra = none ∨ rb = none) ∧ r1 = false ∧ r2 = 2) ∨ ∃ x y, ra = some x ∧ rb = some y ∧ r1 = decide (x = y) ∧ r2 = 0))
theorem EqR.det {a b : S24} {r1 s1 : Bool} {r2 s2 : Int} (h : EqR a b r1 r2) (k : EqR a b s1 s2) : r1 = s1 ∧ r2 = s2 := by
  rcases h with ⟨h1, rfl, rfl⟩ | ⟨h1, h2, ra, rb, na, nb, h⟩
  · rcases k with ⟨_, rfl, rfl⟩ | ⟨k1, k2, _⟩
    · exact ⟨rfl, rfl⟩
    · exact absurd ⟨k1, k2⟩ h1
  · rcases k with ⟨k1, _⟩ | ⟨_, _, sa, sb, ma, mb, k⟩
    · exact absurd ⟨h1, h2⟩ k1
    · obtain rfl := na.det ma
      obtain rfl := nb.det mb
      rcases h with ⟨h3, rfl, rfl⟩ | ⟨x, y, rfl, rfl, rfl, rfl⟩
      · rcases k with ⟨_, rfl, rfl⟩ | ⟨x, y, rfl, rfl, _, _⟩
        · exact ⟨rfl, rfl⟩
        · rcases h3 with h3 | h3 <;> cases h3
      · rcases k with ⟨k3, rfl, rfl⟩ | ⟨x2, y2, e1, e2, rfl, rfl⟩
        · rcases k3 with k3 | k3 <;> cases k3
        · cases e1
          cases e2
          exact ⟨rfl, rfl⟩
def EqualOk (a b : S24) (r1 : Bool) (r2 : Int) : Prop := ∀ (A B : Option Addr) (c d : Nat) (w : World), Kd.C k24 w A a.f2.length a.f2 → a.f2.length ≤ c → Kd.C k24 w B b.f2.length b.f2 → b.f2.length ≤ d → Calls Try.prog 17 #[.agg (sV a A c), .agg (sV b B d)] w fun e w' => e = .returned (.tuple #[.bool r1, .int .i64 r2]) ∧ Below w.heap.size w w'
theorem equal_all (a b : S24) (ha : nod a ≤ 100000) (hb : nod b ≤ 100000) : ∃ r1 r2, EqR a b r1 r2 ∧ EqualOk a b r1 r2 := by
  obtain ⟨va, hva, wa⟩ := valid_calls a ha
  obtain ⟨vb, hvb, wb⟩ := valid_calls b hb
  by_cases h : Vd a ∧ Vd b
  · obtain ⟨h1, h2⟩ := h
    obtain rfl := hva.2 h1
    obtain rfl := hvb.2 h2
    obtain ⟨ra, na, ea, oa⟩ := norm_all h1.2.2
    obtain ⟨rb, nb, eb, ob⟩ := norm_all h2.2.2
    by_cases hn : ra = none ∨ rb = none
    · exact ⟨false, 2, .inr ⟨h1, h2, ra, rb, na, nb, .inl ⟨hn, rfl, rfl⟩⟩, fun A B c d w hA hc hB hd => equal_no (.inl rfl) (fun w hA hB => both_none wa wb oa ob hn hA hc hB hd) hA hc hB hd⟩
    · cases ra with
      | none => exact absurd (.inl rfl) hn
      | some x =>
        cases rb with
        | none => exact absurd (.inr rfl) hn
        | some y => exact ⟨decide (x = y), 0, .inr ⟨h1, h2, _, _, na, nb, .inr ⟨x, y, rfl, rfl, rfl, rfl⟩⟩, fun A B c d w hA hc hB hd => equal_yes (ea x rfl) (eb y rfl) (fun w hA hB => both_some wa wb oa ob hA hc hB hd) hA hc hB hd⟩
  · have hf : (va && vb) = false := by
      cases va with
      | false => rfl
      | true =>
        cases vb with
        | false => rfl
        | true => exact absurd ⟨hva.1 rfl, hvb.1 rfl⟩ h
    exact ⟨false, 4, .inl ⟨h, rfl, rfl⟩, fun A B c d w hA hc hB hd => equal_no (.inr rfl) (fun w hA hB => both_bad wa wb hf hA hc hB hd) hA hc hB hd⟩
end
end Go.Proofs.Ytlidibbdacohaaa.R
