/- The law Evals: what both evaluations answer; walked. No condition. -/
import Derived.Test.YtlidibbdacohaaaR5
import Derived.Test.YtlidibbdacohaaaPRingEqualsxf54
import Derived.Test.YtlidibbdacohaaaPRingEqualsxf22
namespace Go.Proofs.Ytlidibbdacohaaa.R
section
open Go.RowKit Go.Maps Go.ChangeShapes Go.WideShapes Go.Proofs.Ytlidibbdacohaaa.PRingEquals Go.Proofs.YtlidibbdacohaaaW.PrintWords Go.Proofs.YtlidibbdacohaaaW.PrintLast Go.Proofs.YtlidibbdacohaaaW.PrintMore
set_option linter.unusedVariables false
set_option linter.unusedSimpArgs false

theorem evals_ev (l : List Int) {e : S24} (h : Fm e) : ∃ v, Ev (fun k => ring_eval.f k e.f0 e.f1 e.f2 l) v ∧ Ev (fun k => tenetref24_eval.f k e.f0 e.f1 e.f2 l) v := by
  induction h with
  | @num n h0 h1 =>
    refine ⟨Int.tmod n 1000000007, ?_, ?_⟩
    · refine Ev.step (fun k => ring_eval.f.eq_2 ..) ?_
      simp only [if_true]
      exact Ev.now _
    · refine Ev.step (fun k => tenetref24_eval.f.eq_2 ..) ?_
      simp only [if_true]
      exact Ev.now _
  | @var n h0 h1 =>
    by_cases hl : n ≥ (l.length : Int)
    · refine ⟨0, ?_, ?_⟩
      · refine Ev.step (fun k => ring_eval.f.eq_2 ..) ?_
        simp only [if_neg (show ¬ (2 : Int) = 1 by decide), if_true, if_pos hl]
        exact Ev.now _
      · refine Ev.step (fun k => tenetref24_eval.f.eq_2 ..) ?_
        simp only [if_neg (show ¬ (2 : Int) = 1 by decide), if_true, if_pos hl]
        exact Ev.now _
    · have hl2 : n < (l.length : Int) := by omega
      refine ⟨Int.tmod (wrap64 ((Int.tmod (rd l n) 1000000007) + 1000000007)) 1000000007, ?_, ?_⟩
      · refine Ev.step (fun k => ring_eval.f.eq_2 ..) ?_
        simp only [if_neg (show ¬ (2 : Int) = 1 by decide), if_true, if_neg hl, if_pos h0, if_pos hl2]
        exact Ev.now _
      · refine Ev.step (fun k => tenetref24_eval.f.eq_2 ..) ?_
        simp only [if_neg (show ¬ (2 : Int) = 1 by decide), if_true, if_neg hl, if_pos h0, if_pos hl2]
        exact Ev.now _
  | @add a b ha hb iha ihb =>
    obtain ⟨x, x1, x2⟩ := iha
    obtain ⟨y, y1, y2⟩ := ihb
    have hl0 : (0 : Int) < (([a, b] : List S24).length : Int) := by simp
    have hl1 : (1 : Int) < (([a, b] : List S24).length : Int) := by simp
    refine ⟨Int.tmod (wrap64 (x + y)) 1000000007, ?_, ?_⟩
    · refine Ev.step (fun k => ring_eval.f.eq_2 ..) ?_
      simp only [if_neg (show ¬ (3 : Int) = 1 by decide), if_neg (show ¬ (3 : Int) = 2 by decide), if_pos hl0, (rd2 a b).1]
      refine Ev.bind x1 ?_
      simp only [if_pos hl1, (rd2 a b).2]
      refine Ev.bind y1 ?_
      simp only [if_true]
      exact Ev.now _
    · refine Ev.step (fun k => tenetref24_eval.f.eq_2 ..) ?_
      simp only [if_neg (show ¬ (3 : Int) = 1 by decide), if_neg (show ¬ (3 : Int) = 2 by decide), if_true, if_pos hl0, (rd2 a b).1]
      refine Ev.bind x2 ?_
      simp only [if_pos hl1, (rd2 a b).2]
      refine Ev.bind y2 ?_
      exact Ev.now _
  | @mul a b ha hb iha ihb =>
    obtain ⟨x, x1, x2⟩ := iha
    obtain ⟨y, y1, y2⟩ := ihb
    have hl0 : (0 : Int) < (([a, b] : List S24).length : Int) := by simp
    have hl1 : (1 : Int) < (([a, b] : List S24).length : Int) := by simp
    refine ⟨Int.tmod (wrap64 (x * y)) 1000000007, ?_, ?_⟩
    · refine Ev.step (fun k => ring_eval.f.eq_2 ..) ?_
      simp only [if_neg (show ¬ (4 : Int) = 1 by decide), if_neg (show ¬ (4 : Int) = 2 by decide), if_pos hl0, (rd2 a b).1]
      refine Ev.bind x1 ?_
      simp only [if_pos hl1, (rd2 a b).2]
      refine Ev.bind y1 ?_
      simp only [if_neg (show ¬ (4 : Int) = 3 by decide)]
      exact Ev.now _
    · refine Ev.step (fun k => tenetref24_eval.f.eq_2 ..) ?_
      simp only [if_neg (show ¬ (4 : Int) = 1 by decide), if_neg (show ¬ (4 : Int) = 2 by decide), if_neg (show ¬ (4 : Int) = 3 by decide), if_pos hl0, (rd2 a b).1]
      refine Ev.bind x2 ?_
      simp only [if_pos hl1, (rd2 a b).2]
      refine Ev.bind y2 ?_
      exact Ev.now _
/-- What Eval answers: the program's (21) or the reference's (22). -/
def EvalOk (f : FuncId) (x : S24) (l : List Int) (r1 r2 : Int) : Prop := ∀ (A : Option Addr) (c : Nat) (B : Option Addr) (d : Nat) (w : World), Kd.C k24 w A x.f2.length x.f2 → x.f2.length ≤ c → (Kd.int .i64).C w B l.length l → l.length ≤ d → Calls Try.prog f #[.agg (sV x A c), .slice B l.length d] w fun e w' => e = .returned (.tuple #[.int .i64 r1, .int .i64 r2]) ∧ Below w.heap.size w w'
set_option maxRecDepth 100000 in
theorem eval_no {x : S24} (hv : ValidOk x false) (l : List Int) : EvalOk 21 x l 0 4 := by
  intro A c B d w hA hc hB hd
  have B2 := Aside0.mk (below_alloc (Below.refl w.heap.size w) (.cells (sV x A c) 24))
  have G2 := Aside0.mk (blk_new w (.cells (sV x A c) 24))
  have x0 := blk_at (k := 0) G2.out rfl
  have x1 := blk_at (k := 1) G2.out rfl
  have x2 := blk_at (k := 2) G2.out rfl
  have HA := Aside0.mk (Kd.C_below hA B2.out)
  have HC := Aside0.mk hc
  have HV := Aside0.mk hv
  clear hA hc hB hd hv
  go_enter Try.func21, Try.ntmps21
  go_wp2_with (first | (go_at_call 59; skip))
  refine (HV.out A c _ HA.out HC.out).mono ?_
  rintro e w5 ⟨rfl, hb5⟩
  have B5 := Aside0.mk (below_step B2.out hb5)
  clear hb5
  go_wp2
  go_ret2
  exact ⟨rfl, B5.out⟩
set_option maxRecDepth 100000 in
theorem eval_yes {x : S24} (hv : ValidOk x true) {l : List Int} {v : Int} (he : Ev (fun k => ring_eval.f k x.f0 x.f1 x.f2 l) v) : EvalOk 21 x l v 0 := by
  intro A c B d w hA hc hB hd
  obtain ⟨k, hk⟩ := he
  have HE := Aside0.mk (hk k (Nat.le_refl _))
  have B2 := Aside0.mk (below_alloc (Below.refl w.heap.size w) (.cells (sV x A c) 24))
  have G2 := Aside0.mk (blk_new w (.cells (sV x A c) 24))
  have x0 := blk_at (k := 0) G2.out rfl
  have x1 := blk_at (k := 1) G2.out rfl
  have x2 := blk_at (k := 2) G2.out rfl
  have HA := Aside0.mk (Kd.C_below hA B2.out)
  have HB := Aside0.mk (Kd.C_below hB B2.out)
  have HC := Aside0.mk hc
  have HD := Aside0.mk hd
  have HV := Aside0.mk hv
  clear hA hc hB hd hv hk
  go_enter Try.func21, Try.ntmps21
  go_wp2_with (first | (go_at_call 59; skip))
  refine (HV.out A c _ HA.out HC.out).mono ?_
  rintro e w5 ⟨rfl, hb5⟩
  have B5 := Aside0.mk (below_step B2.out hb5)
  have G5 := Aside0.mk (blk_below G2.out hb5)
  have HA5 := Aside0.mk (Kd.C_below HA.out hb5)
  have HB5 := Aside0.mk (Kd.C_below HB.out hb5)
  clear hb5 x0 x1 x2
  have y0 := blk_at (k := 0) G5.out rfl
  have y1 := blk_at (k := 1) G5.out rfl
  have y2 := blk_at (k := 2) G5.out rfl
  go_wp2_with (first | (go_at_call 59; skip))
  refine (ring_eval.calls k x.f0 x.f1 A c x.f2 B d l v _ HA5.out HC.out HB5.out HD.out HE.out).mono ?_
  rintro e w6 ⟨rfl, hb6⟩
  have B6 := Aside0.mk (below_step B5.out hb6)
  clear hb6
  go_wp2
  go_ret2
  exact ⟨rfl, B6.out⟩
/-- Both evaluations answer the same. -/
theorem eval_both (x : S24) (l : List Int) (hn : nod x ≤ 100000) : ∃ r1 r2, EvalOk 21 x l r1 r2 ∧ EvalOk 22 x l r1 r2 := by
  obtain ⟨v, hv, ov⟩ := valid_calls x hn
  obtain ⟨u, hu, ⟨k1, ou⟩⟩ := ValidR_ev x
  have e1 : u = v := by
    rw [Bool.eq_iff_iff, hu, hv]
  subst e1
  cases u with
  | false =>
    refine ⟨0, 4, eval_no ov l, fun A c B d w hA hc hB hd => tenetref24_Eval.calls k1 x.f0 x.f1 A c x.f2 B d l 0 4 w hA hc hB hd ?_⟩
    have h := ou k1 (Nat.le_refl _)
    unfold tenetref24_Eval.f
    change tenetref24_Valid.f k1 x.f0 x.f1 x.f2 = some false at h
    rw [h]
    rfl
  | true =>
    obtain ⟨y, ⟨p1, p2⟩, ⟨k2, q2⟩⟩ := evals_ev l (hv.1 rfl).2.2
    refine ⟨y, 0, eval_yes ov ⟨p1, p2⟩, fun A c B d w hA hc hB hd => tenetref24_Eval.calls (max k1 k2) x.f0 x.f1 A c x.f2 B d l y 0 w hA hc hB hd ?_⟩
    have h := ou (max k1 k2) (Nat.le_max_left _ _)
    have g := q2 (max k1 k2) (Nat.le_max_right _ _)
    unfold tenetref24_Eval.f
    change tenetref24_Valid.f (max k1 k2) x.f0 x.f1 x.f2 = some true at h
    change tenetref24_eval.f (max k1 k2) x.f0 x.f1 x.f2 l = some y at g
    rw [h]
    simp only [Option.bind_some, if_true, g]
set_option maxRecDepth 100000 in
set_option maxHeartbeats 4000000 in
theorem evals_law (w : World) (A : Option Addr) (c : Nat) (a : S24) (B : Option Addr) (d : Nat) (l : List Int) (hc : a.f2.length ≤ c) (hA : Kd.C k24 w A a.f2.length a.f2) (hB : (Kd.int .i64).C w B l.length l) (hd : l.length ≤ d) :
    Calls Try.prog 5 #[.agg (sV a A c), .slice B l.length d] w fun e w' => e = .returned (.bool true) ∧ Below w.heap.size w w' := by
  have B2 := Aside0.mk (below_alloc (Below.refl w.heap.size w) (.cells (sV a A c) 24))
  have G2 := Aside0.mk (blk_new w (.cells (sV a A c) 24))
  have HA := Aside0.mk hA
  have HB := Aside0.mk hB
  have HC := Aside0.mk hc
  have HD := Aside0.mk hd
  have HG := Aside0.mk (big_calls a)
  have x0 := blk_at (k := 0) G2.out rfl
  have x1 := blk_at (k := 1) G2.out rfl
  have x2 := blk_at (k := 2) G2.out rfl
  clear hA hB hc hd
  go_enter Try.func5, Try.ntmps5
  by_cases h1 : nod a > 400
  · rw [decide_eq_true h1] at HG
    clear h1
    go_wp2_with (first | (go_at_call 59; skip))
    refine (HG.out A c _ (Kd.C_below HA.out B2.out) HC.out).mono ?_
    rintro e w5 ⟨rfl, hb5⟩
    have B5 := Aside0.mk (below_step B2.out hb5)
    have G5 := Aside0.mk (blk_below G2.out hb5)
    clear hb5 x0 x1 x2
    go_wp2_with (first | (go_at_call 59; skip))
    refine (awake_calls _).mono ?_
    rintro e w9 ⟨rfl, hb9⟩
    have B9 := Aside0.mk (below_step B5.out hb9)
    clear hb9
    go_wp2
    go_ret
    exact ⟨rfl, B9.out⟩
  · rw [decide_eq_false h1] at HG
    by_cases h2 : (l.length : Int) > 100
    · have c2 : decide (100 < (l.length : Int)) = true := decide_eq_true h2
      clear h1 h2
      go_wp2_with (first | (go_at_call 59; skip))
      refine (HG.out A c _ (Kd.C_below HA.out B2.out) HC.out).mono ?_
      rintro e w5 ⟨rfl, hb5⟩
      have B5 := Aside0.mk (below_step B2.out hb5)
      have G5 := Aside0.mk (blk_below G2.out hb5)
      clear hb5 x0 x1 x2
      go_wp2_with (first | (go_at_call 59; skip))
      refine (awake_calls _).mono ?_
      rintro e w9 ⟨rfl, hb9⟩
      have B9 := Aside0.mk (below_step B5.out hb9)
      clear hb9
      go_wp2
      go_ret
      exact ⟨rfl, B9.out⟩
    · have c2 : decide (100 < (l.length : Int)) = false := decide_eq_false h2
      obtain ⟨r1, r2, q1, q2⟩ := eval_both a l (by omega)
      have H1 := Aside0.mk q1
      have H2 := Aside0.mk q2
      clear h1 h2 q1 q2
      go_wp2_with (first | (go_at_call 59; skip))
      refine (HG.out A c _ (Kd.C_below HA.out B2.out) HC.out).mono ?_
      rintro e w5 ⟨rfl, hb5⟩
      have B5 := Aside0.mk (below_step B2.out hb5)
      have G5 := Aside0.mk (blk_below G2.out hb5)
      clear hb5 x0 x1 x2
      have y0 := blk_at (k := 0) G5.out rfl
      have y1 := blk_at (k := 1) G5.out rfl
      have y2 := blk_at (k := 2) G5.out rfl
      go_wp2_with (first | (go_at_call 59; skip))
      refine (H1.out A c B d _ (Kd.C_below HA.out B5.out) HC.out (Kd.C_below HB.out B5.out) HD.out).mono ?_
      rintro e w6 ⟨rfl, hb6⟩
      have B6 := Aside0.mk (below_step B5.out hb6)
      have G6 := Aside0.mk (blk_below G5.out hb6)
      clear hb6 y0 y1 y2
      have x0 := blk_at (k := 0) G6.out rfl
      have x1 := blk_at (k := 1) G6.out rfl
      have x2 := blk_at (k := 2) G6.out rfl
      go_wp2_with (first | (go_at_call 59; skip))
      refine (H2.out A c B d _ (Kd.C_below HA.out B6.out) HC.out (Kd.C_below HB.out B6.out) HD.out).mono ?_
      rintro e w7 ⟨rfl, hb7⟩
      have B7 := Aside0.mk (below_step B6.out hb7)
      have G7 := Aside0.mk (blk_below G6.out hb7)
      clear hb7 x0 x1 x2
      go_wp2_with (first | (go_at_call 59; skip))
      refine (awake_calls _).mono ?_
      rintro e w9 ⟨rfl, hb9⟩
      have B9 := Aside0.mk (below_step B7.out hb9)
      clear hb9
      go_wp2
      go_ret
      exact ⟨rfl, B9.out⟩
end
end Go.Proofs.Ytlidibbdacohaaa.R
