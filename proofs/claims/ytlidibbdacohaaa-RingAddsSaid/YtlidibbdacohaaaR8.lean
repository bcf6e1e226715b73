import Derived.Test.YtlidibbdacohaaaR4
import Derived.Test.YtlidibbdacohaaaPRingEqualsx0
import Derived.Test.YtlidibbdacohaaaPRingEqualsxf39
/- The reference's EqMonos and Equal: what they answer. No condition. -/
namespace Go.Proofs.Ytlidibbdacohaaa.R
section
open Go.RowKit Go.Proofs.Ytlidibbdacohaaa.PRingEquals Go.Proofs.YtlidibbdacohaaaW.PrintWords Go.Proofs.YtlidibbdacohaaaW.PrintLast Go.Proofs.YtlidibbdacohaaaW.PrintMore
set_option linter.unusedVariables false
set_option linter.unusedSimpArgs false

theorem drop_dec {α : Type} [DecidableEq α] {a b : List α} {i : Nat} (ha : i < a.length) (hb : i < b.length) : decide (a.drop i = b.drop i) = (decide (a[i] = b[i]) && decide (a.drop (i + 1) = b.drop (i + 1))) := by
  rw [List.drop_eq_getElem_cons ha, List.drop_eq_getElem_cons hb, Bool.eq_iff_iff]
  simp only [decide_eq_true_eq, Bool.and_eq_true, List.cons.injEq]
theorem em_l1 {x y : Po} {i : Nat} (hx : i < x.length) (hy : i < y.length) (hn : x.length ≤ 100000) (h1 : x[i].1.length = 8) (h2 : y[i].1.length = 8) {b : Bool} (IH : Ev (fun k => tenetref24_EqMonos.l0 k (toL x) (toL y) ((i + 1 : Nat) : Int)) b) :
    ∀ (d j : Nat), d + j = 8 → Ev (fun k => tenetref24_EqMonos.l1 k (toL x) (toL y) (i : Int) (j : Int)) (decide (x[i].1.drop j = y[i].1.drop j) && b) := by
  have hi0 : (0 : Int) ≤ (i : Int) := by omega
  have hix : (i : Int) < ((toL x).length : Int) := by simp [toL]; omega
  have hiy : (i : Int) < ((toL y).length : Int) := by simp [toL]; omega
  have HI := Aside0.mk IH
  clear IH
  intro d
  induction d with
  | zero =>
    intro j hj
    refine Ev.step (fun k => tenetref24_EqMonos.l1.eq_2 ..) ?_
    have hj1 : ¬ (j : Int) < (((toS x[i]).f1).length : Int) := by show ¬ (j : Int) < ((x[i].1).length : Int); omega
    simp only [if_pos hi0, if_pos hix, rd_toL x i hx, if_neg hj1, wrap_nat (show i < 4398046511104 by omega)]
    rw [List.drop_eq_nil_of_le (by omega), List.drop_eq_nil_of_le (by omega)]
    simp only [decide_true, Bool.true_and]
    exact HI.out
  | succ d ih =>
    intro j hj
    have hj0 : (0 : Int) ≤ (j : Int) := by omega
    have hj1 : (j : Int) < (((toS x[i]).f1).length : Int) := by show (j : Int) < ((x[i].1).length : Int); omega
    have hj2 : (j : Int) < (((toS y[i]).f1).length : Int) := by show (j : Int) < ((y[i].1).length : Int); omega
    have e1 : rd ((toS x[i]).f1) (j : Int) = x[i].1[j]'(by omega) := rd_nat x[i].1 j (by omega)
    have e2 : rd ((toS y[i]).f1) (j : Int) = y[i].1[j]'(by omega) := rd_nat y[i].1 j (by omega)
    refine Ev.step (fun k => tenetref24_EqMonos.l1.eq_2 ..) ?_
    simp only [if_pos hi0, if_pos hix, if_pos hiy, rd_toL x i hx, rd_toL y i hy, if_pos hj0, if_pos hj1, if_pos hj2, e1, e2, wrap_nat (show j < 4398046511104 by omega)]
    rw [drop_dec (show j < x[i].1.length by omega) (show j < y[i].1.length by omega)]
    by_cases e : x[i].1[j]'(by omega) = y[i].1[j]'(by omega)
    · simp only [if_pos e, decide_eq_true e, Bool.true_and]
      exact ih (j + 1) (by omega)
    · simp only [if_neg e, decide_eq_false e, Bool.false_and]
      exact Ev.now _
theorem em_l0 {x y : Po} (hl : x.length = y.length) (hn : x.length ≤ 100000) (hx : ∀ t ∈ x, t.1.length = 8) (hy : ∀ t ∈ y, t.1.length = 8) : ∀ (d i : Nat), d + i = x.length → Ev (fun k => tenetref24_EqMonos.l0 k (toL x) (toL y) (i : Int)) (decide (x.drop i = y.drop i))
  | 0, i, h => by
    have h1 : ¬ (i : Int) < ((toL x).length : Int) := by simp [toL]; omega
    refine Ev.step (fun k => tenetref24_EqMonos.l0.eq_2 ..) ?_
    simp only [if_neg h1]
    rw [List.drop_eq_nil_of_le (by omega), List.drop_eq_nil_of_le (by omega)]
    exact Ev.now _
  | d + 1, i, h => by
    have hi0 : (0 : Int) ≤ (i : Int) := by omega
    have hxi : i < x.length := by omega
    have hyi : i < y.length := by omega
    have hix : (i : Int) < ((toL x).length : Int) := by simp [toL]; omega
    have hiy : (i : Int) < ((toL y).length : Int) := by simp [toL]; omega
    have l1 := hx _ (List.getElem_mem hxi)
    have l2 := hy _ (List.getElem_mem hyi)
    have ih := em_l0 hl hn hx hy d (i + 1) (by omega)
    have hin := em_l1 hxi hyi hn l1 l2 ih 8 0 rfl
    refine Ev.step (fun k => tenetref24_EqMonos.l0.eq_2 ..) ?_
    simp only [if_pos hix, if_pos hi0, if_pos hiy, rd_toL x i hxi, rd_toL y i hyi]
    rw [drop_dec hxi hyi]
    have e0 : (((((toS x[i]).f1).length : Int)) != (((toS y[i]).f1).length : Int)) = false := bne_eq_false_iff_eq.mpr (by show ((x[i].1).length : Int) = ((y[i].1).length : Int); omega)
    by_cases e : (toS x[i]).f0 = (toS y[i]).f0
    · simp only [if_pos e, e0]
      refine Ev.step (fun k => tenetref24_EqMonos.j1.eq_2 ..) ?_
      simp only [Bool.false_eq_true, if_false]
      have e1 : decide (x[i] = y[i]) = decide (x[i].1.drop 0 = y[i].1.drop 0) := by
        rw [List.drop_zero, List.drop_zero]
        refine decide_eq_decide.2 ⟨fun h => by rw [h], fun h => Prod.ext h e⟩
      rw [e1]
      exact hin
    · simp only [if_neg e]
      have e1 : decide (x[i] = y[i]) = false := decide_eq_false (fun h => e (by rw [h]))
      rw [e1, Bool.false_and]
      refine Ev.step (fun k => tenetref24_EqMonos.j1.eq_2 ..) ?_
      simp only [if_true]
      exact Ev.now _
theorem EqMonos_ev {x y : Po} (hn : x.length ≤ 100000) (hx : ∀ t ∈ x, t.1.length = 8) (hy : ∀ t ∈ y, t.1.length = 8) : Ev (fun k => tenetref24_EqMonos.f k (toL x) (toL y)) (decide (x = y)) := by
  simp only [tenetref24_EqMonos.f]
  by_cases hl : x.length = y.length
  · have h1 : (((toL x).length : Nat) : Int) = ((toL y).length : Int) := by simp [toL, hl]
    have := em_l0 hl hn hx hy x.length 0 rfl
    simp only [if_pos h1]
    exact this
  · have h1 : ¬ (((toL x).length : Nat) : Int) = ((toL y).length : Int) := by simp [toL]; omega
    simp only [if_neg h1, decide_eq_false (show ¬ x = y from fun e => hl (by rw [e]))]
    exact Ev.now _
end
end Go.Proofs.Ytlidibbdacohaaa.R
