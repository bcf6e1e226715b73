/- A part of this claim's proof: texts of its author, and printed ones, packed by a program of its author's. -/
import Derived.Test.YtegejpcglabhbaaCa2
import Derived.Test.YtegejpcglabhbaaCa20
import Derived.Test.YtegejpcglabhbaaCa21
import Derived.Test.YtegejpcglabhbaaCa12
import Derived.Test.YtegejpcglabhbaaCa18
namespace Go.Proofs.Ytegejpcglabhbaa.G
open Go.RowKit Go.Proofs.YtegejpcglabhbaaW.PrintWords Go.Proofs.YtegejpcglabhbaaW.PrintLast Go.Proofs.YtegejpcglabhbaaW.PrintMore
attribute [local go_sem] max2_int min2_int max_two min_two max_three min_three max_four min_four
set_option linter.unusedVariables false
set_option linter.unusedSimpArgs false
mutual
def tenetref02_solve.j0 : Nat → Int → List (S94) → Bool → Option (List Int × Bool)
 | 0, _, _, _ => none
 | k + 1, x0, x6, x28 => if x28 = true then (some (([] : List Int), false)) else (if 0 ≤ x0 then (if (x0 : Int).toNat ≤ 35184372088832 then (tenetref02_solve.l0 k x0 x6 (List.replicate (x0 : Int).toNat 0) 0) else (none)) else (none))
def tenetref02_solve.l0 : Nat → Int → List (S94) → List Int → Int → Option (List Int × Bool)
 | 0, _, _, _, _ => none
 | k + 1, x0, x6, x8, x9 => if x9 < x0 then (if 0 ≤ x9 then (if x9 < (x6.length : Int) then (if x9 < (x8.length : Int) then (tenetref02_solve.l0 k x0 x6 (x8.set (x9 : Int).toNat ((rd_T94 x6 x9).f1)) (wrap64 (x9 + 1))) else (none)) else (none)) else (none)) else (some (x8, true))
end
def tenetref02_solve.f (k : Nat) (a0 : Int) (l1 : List (S44)) : Option (List Int × Bool) := (tenetref02_edges.f k a0 l1).bind fun t229 => ((tenetref02_longest.f k a0 t229 a0).bind fun bt232 => (if bt232.2 = true then (if 0 ≤ a0 then (if a0 < (bt232.1.length : Int) then (tenetref02_solve.j0 k a0 bt232.1 (decide (((rd_T94 bt232.1 a0).f1) > 0))) else (none)) else (none)) else (tenetref02_solve.j0 k a0 bt232.1 true)))
theorem tenetref02_solve.mono_l : ∀ k, (∀ y0 y1 y2, LeO (tenetref02_solve.j0 k y0 y1 y2) (tenetref02_solve.j0 (k + 1) y0 y1 y2)) ∧ (∀ y0 y1 y2 y3, LeO (tenetref02_solve.l0 k y0 y1 y2 y3) (tenetref02_solve.l0 (k + 1) y0 y1 y2 y3))
 | 0 => ⟨fun _ _ _ r h => by simp [tenetref02_solve.j0] at h, fun _ _ _ _ r h => by simp [tenetref02_solve.l0] at h⟩
 | k + 1 => by
  obtain ⟨ih0, ih1⟩ := tenetref02_solve.mono_l k
  refine ⟨?_, ?_⟩
  ·intro y0 y1 y2
   unfold tenetref02_solve.j0
   repeat' first
   | (with_reducible exact ih0 _ _ _)
   | (with_reducible exact ih1 _ _ _ _)
   | (with_reducible exact tenetref02_edges.mono _ _ _)
   | (with_reducible exact tenetref02_longest.mono _ _ _ _)
   | (with_reducible exact LeO.refl _)
   | (with_reducible exact LeO.none _)
   | (with_reducible refine LeO.ite ?_ ?_)
   | (with_reducible refine LeO.bind ?_ (fun _ => ?_))
   | exact ih0 _ _ _
   | exact ih1 _ _ _ _
   | exact tenetref02_edges.mono _ _ _
   | exact tenetref02_longest.mono _ _ _ _
   | exact LeO.none _
   | refine LeO.ite ?_ ?_
   | refine LeO.bind ?_ (fun _ => ?_)
  ·intro y0 y1 y2 y3
   unfold tenetref02_solve.l0
   repeat' first
   | (with_reducible exact ih0 _ _ _)
   | (with_reducible exact ih1 _ _ _ _)
   | (with_reducible exact tenetref02_edges.mono _ _ _)
   | (with_reducible exact tenetref02_longest.mono _ _ _ _)
   | (with_reducible exact LeO.refl _)
   | (with_reducible exact LeO.none _)
   | (with_reducible refine LeO.ite ?_ ?_)
   | (with_reducible refine LeO.bind ?_ (fun _ => ?_))
   | exact ih0 _ _ _
   | exact ih1 _ _ _ _
   | exact tenetref02_edges.mono _ _ _
   | exact tenetref02_longest.mono _ _ _ _
   | exact LeO.none _
   | refine LeO.ite ?_ ?_
   | refine LeO.bind ?_ (fun _ => ?_)
theorem tenetref02_solve.mono : ∀ a0 a1 k, LeO (tenetref02_solve.f k a0 a1) (tenetref02_solve.f (k + 1) a0 a1) := by
 intro a0 a1 k
 obtain ⟨ih0, ih1⟩ := tenetref02_solve.mono_l k
 unfold tenetref02_solve.f
 repeat' first
   | (with_reducible exact ih0 _ _ _)
   | (with_reducible exact ih1 _ _ _ _)
   | (with_reducible exact tenetref02_edges.mono _ _ _)
   | (with_reducible exact tenetref02_longest.mono _ _ _ _)
   | (with_reducible exact LeO.refl _)
   | (with_reducible exact LeO.none _)
   | (with_reducible refine LeO.ite ?_ ?_)
   | (with_reducible refine LeO.bind ?_ (fun _ => ?_))
   | exact ih0 _ _ _
   | exact ih1 _ _ _ _
   | exact tenetref02_edges.mono _ _ _
   | exact tenetref02_longest.mono _ _ _ _
   | exact LeO.none _
   | refine LeO.ite ?_ ?_
   | refine LeO.bind ?_ (fun _ => ?_)
set_option maxHeartbeats 8000000 in
set_option maxRecDepth 100000 in
theorem tenetref02_solve.calls (k : Nat) (a0 : Int) (A1 : Option Addr) (c1 : Nat) (l1 : List (S44)) (r1 : List Int) (r2 : Bool) (w : World) (hr1 : Kd.C k44 w A1 l1.length l1) (hc1 : l1.length ≤ c1) (h : tenetref02_solve.f k a0 l1 = some (r1, r2)) :
  Calls Try.prog 50 #[.int .i64 a0, .slice A1 l1.length c1] w fun e w' => ∃ v0_ : Value, e = .returned (.tuple #[v0_, .bool r2]) ∧ Kd.R (Kd.int .i64) 3 w' w.heap.size (fun _ => True) v0_ r1 ∧ Below w.heap.size w w' := by
 have HR1 := Aside0.mk hr1
 have HC1 := Aside0.mk hc1
 clear hr1 hc1
 have HB := Aside0.mk (Below.refl w.heap.size w)
 have H : ((tenetref02_edges.f k a0 l1).bind fun t229 => ((tenetref02_longest.f k a0 t229 a0).bind fun bt232 => (if bt232.2 = true then (if 0 ≤ a0 then (if a0 < (bt232.1.length : Int) then (tenetref02_solve.j0 k a0 bt232.1 (decide (((rd_T94 bt232.1 a0).f1) > 0))) else (none)) else (none)) else (tenetref02_solve.j0 k a0 bt232.1 true)))) = some (r1, r2) := h
 clear h
 replace H := Option.bind_eq_some_iff.mp H
 obtain ⟨t229, A30, H⟩ := H
 replace H : ((tenetref02_longest.f k a0 t229 a0).bind fun bt232 => (if bt232.2 = true then (if 0 ≤ a0 then (if a0 < (bt232.1.length : Int) then (tenetref02_solve.j0 k a0 bt232.1 (decide (((rd_T94 bt232.1 a0).f1) > 0))) else (none)) else (none)) else (tenetref02_solve.j0 k a0 bt232.1 true))) = some (r1, r2) := H
 have A3 := Aside0.mk A30
 clear A30
 replace H := Option.bind_eq_some_iff.mp H
 obtain ⟨⟨t232, t233⟩, A40, H⟩ := H
 replace H : (if t233 = true then (if 0 ≤ a0 then (if a0 < (t232.length : Int) then (tenetref02_solve.j0 k a0 t232 (decide (((rd_T94 t232 a0).f1) > 0))) else (none)) else (none)) else (tenetref02_solve.j0 k a0 t232 true)) = some (r1, r2) := H
 have A4 := Aside0.mk A40
 clear A40
 have HC5 := Aside0.mk H
 clear H
 go_enter Try.func50, Try.ntmps50
 go_upto_region 2 with (first | ((with_reducible refine gate_callee (f := 64) rfl ?_); refine goesL_ (some 14) rfl rfl Try.func64 (by kernel_rfl) rfl #[.int .i64 a0, .slice A1 l1.length c1] rfl (by (try simp only [List.map_toArray, List.map_cons, List.map_nil]); first | done | rfl | (simp only [List.length_drop, List.length_take]; rfl)) ?_; (with_reducible refine (tenetref02_edges.calls k a0 _ _ l1 t229 _ ?side1 ?side2 A3.out).mono ?_); (case side1 => repeat (first | exact HR1.out | (with_reducible refine Kd.C_alloc ?_ _) | (with_reducible refine Kd.C_drewN ?_ _) | (with_reducible refine Kd.C_drew ?_))); (case side2 => exact HC1.out); rintro e w6 ⟨v230, rfl, ho0, hb⟩; refine ⟨_, rfl, ?_⟩; have n0_ := Aside0.mk (Kd.R_lower ho0 (below_size (by repeat (first | (with_reducible first | exact HB.out | apply below_alloc | apply pw_below_drewN | apply below_drew1) | exact HB.out)))); have n1_ := Aside0.mk (below_step (by repeat (first | (with_reducible first | exact HB.out | apply below_alloc | apply pw_below_drewN | apply below_drew1) | exact HB.out)) hb); clear HB; have HO231 := n0_; have HB := n1_; clear n0_ n1_; (try clear hb); (try clear hb2); (try clear hk); (try clear hi); (try clear ho0); obtain ⟨Ao7, co7, eo7⟩ := Kd.R_slice HO231.out; subst eo7) | ((with_reducible refine gate_callee (f := 63) rfl ?_); refine goesL_ (some 16) rfl rfl Try.func63 (by kernel_rfl) rfl #[.int .i64 a0, .slice Ao7 t229.length co7, .int .i64 a0] rfl (by (try simp only [List.map_toArray, List.map_cons, List.map_nil]); first | done | rfl | (simp only [List.length_drop, List.length_take]; rfl)) ?_; (with_reducible refine (tenetref02_longest.calls k a0 _ _ t229 a0 t232 t233 _ ?side1 ?side2 A4.out).mono ?_); (case side1 => repeat (first | exact (Kd.R_reads' HO231.out).2.2 | (with_reducible refine Kd.C_alloc ?_ _) | (with_reducible refine Kd.C_drewN ?_ _) | (with_reducible refine Kd.C_drew ?_))); (case side2 => exact (Kd.R_reads' HO231.out).2.1); rintro e w8 ⟨v234, rfl, ho0, hb⟩; refine ⟨_, rfl, ?_⟩; have n0_ := Aside0.mk (Kd.R_below (by (with_reducible repeat (first | apply Kd.R_alloc | apply Kd.R_drewN | apply Kd.R_drew)); exact HO231.out) hb); have n1_ := Aside0.mk (Kd.R_lower ho0 (below_size (by repeat (first | (with_reducible first | exact HB.out | apply below_alloc | apply pw_below_drewN | apply below_drew1) | exact HB.out)))); have n2_ := Aside0.mk (below_step (by repeat (first | (with_reducible first | exact HB.out | apply below_alloc | apply pw_below_drewN | apply below_drew1) | exact HB.out)) hb); clear HO231; clear HB; have HO231 := n0_; have HO235 := n1_; have HB := n2_; clear n0_ n1_ n2_; (try clear hb); (try clear hb2); (try clear hk); (try clear hi); (try clear ho0)))
 (try simp only [Act.put, List.setIfInBounds_toArray, List.set_cons_zero, List.set_cons_succ])
 go_cut [28] (fun v28 wc => ∃ (kq : Nat) (x28_4 : Bool), v28 = .bool x28_4 ∧ Aside0 (tenetref02_solve.j0 kq a0 t232 x28_4 = some (r1, r2)) ∧ Aside0 (kq ≤ k) ∧ Aside0 (Kd.R k94 94 wc w.heap.size (fun _ => True) v234 t232) ∧ Aside0 (Below w.heap.size w wc))
 case first =>
  have H := HC5.out
  clear HC5
  by_cases c9 : t233 = true
  ·subst c9
   have H1 : (if 0 ≤ a0 then (if a0 < (t232.length : Int) then (tenetref02_solve.j0 k a0 t232 (decide (((rd_T94 t232 a0).f1) > 0))) else (none)) else (none)) = some (r1, r2) := by rw [if_pos rfl] at H; exact H
   clear H
   have H := H1
   clear H1
   by_cases c10 : 0 ≤ a0
   ·rw [if_pos c10] at H
    have c10b0 : decide (0 ≤ a0) = true := decide_eq_true c10
    clear c10
    (first | rw [c10b0] | (simp only [i64_w, i32_w]; rw [c10b0]) | skip)
    by_cases c11 : a0 < (t232.length : Int)
    ·rw [if_pos c11] at H
     have c11b0 : decide (a0 < (t232.length : Int)) = true := decide_eq_true c11
     clear c11
     have H' := Aside0.mk H
     clear H
     obtain ⟨Ao12, co12, eo12⟩ := Kd.R_slice HO235.out
     subst eo12
     have p236 : 0 ≤ (a0 : Int) := of_decide_eq_true (by first | (with_reducible assumption) | assumption)
     have q236 : a0 < (t232.length : Int) := of_decide_eq_true (by first | (with_reducible assumption) | assumption)
     obtain ⟨ad236, e236, hx236_0, hx236_1⟩ := at_T94 (Kd.R_reads' HO235.out).2.2 a0 p236 q236
     cases e236
     replace p236 := eq_true p236
     replace q236 := eq_true q236
     go_wp2
     go_meet
     case rel => exact ⟨_, (decide (((rd_T94 t232 a0).f1) > 0)), (by first | rfl | (simp; done) | (simp [*]; done)), H', ⟨by first | omega | exact Nat.le_refl _⟩, ⟨by (with_reducible repeat (first | apply Kd.R_alloc | apply Kd.R_drewN | apply Kd.R_drew)); exact HO235.out⟩, ⟨by repeat (first | (with_reducible first | exact HB.out | apply below_alloc | apply pw_below_drewN | apply below_drew1) | exact HB.out)⟩⟩
    ·rw [if_neg c11] at H
     exact absurd H (by simp)
   ·rw [if_neg c10] at H
    exact absurd H (by simp)
  ·replace c9 := Bool.eq_false_iff.mpr c9
   subst c9
   have H1 : (tenetref02_solve.j0 k a0 t232 true) = some (r1, r2) := by rw [if_neg (show ¬ (false = true) by decide)] at H; exact H
   clear H
   have H := H1
   clear H1
   have H' := Aside0.mk H
   clear H
   go_wp2
   go_meet
   case rel => exact ⟨_, (true), (by first | rfl | (simp; done) | (simp [*]; done)), H', ⟨by first | omega | exact Nat.le_refl _⟩, ⟨by (with_reducible repeat (first | apply Kd.R_alloc | apply Kd.R_drewN | apply Kd.R_drew)); exact HO235.out⟩, ⟨by repeat (first | (with_reducible first | exact HB.out | apply below_alloc | apply pw_below_drewN | apply below_drew1) | exact HB.out)⟩⟩
 case rest =>
  clear HC5
  try clear c1
  try clear p2
  try clear q2
  try clear hx2
  try clear c5
  try clear c6
  try clear c9
  try clear c10
  try clear c10b0
  try clear c11
  try clear c11b0
  try clear hx236_0
  try clear hx236_1
  try clear p236
  try clear q236
  obtain ⟨kq, x28_4, rfl, HA, HJ4, HO_6, HB⟩ := hcut
  cases kq with
  | zero => exact absurd HA.out (by simp [tenetref02_solve.j0])
  | succ kj4 =>
   have H := HA.out
   clear HA
   simp only [tenetref02_solve.j0] at H
   by_cases c13 : x28_4 = true
   ·subst c13
    have H1 : (some (([] : List Int), false)) = some (r1, r2) := by rw [if_pos rfl] at H; exact H
    clear H
    have H := H1
    clear H1
    simp only [Option.some.injEq, Prod.mk.injEq] at H
    obtain ⟨rfl, rfl⟩ := H
    go_wp2
    go_ret2
    exact ⟨_, by first | rfl | (simp [errW_none, errW_some] <;> rfl) | (simp [*, errW_none, errW_some] <;> rfl), by first | exact Kd.R_nil _ _ _ _ _ | exact Kd.N_nil _ _ _ _ _ | exact Kd.V_nil _ _ _ _ _ | exact Kd.Q_nil _ _ _ _ _ | exact Kd.S_nil _ _ _ _ _, by repeat (first | (with_reducible first | exact HB.out | apply below_alloc | apply pw_below_drewN | apply below_drew1) | exact HB.out)⟩
   ·replace c13 := Bool.eq_false_iff.mpr c13
    subst c13
    have H1 : (if 0 ≤ a0 then (if (a0 : Int).toNat ≤ 35184372088832 then (tenetref02_solve.l0 kj4 a0 t232 (List.replicate (a0 : Int).toNat 0) 0) else (none)) else (none)) = some (r1, r2) := by rw [if_neg (show ¬ (false = true) by decide)] at H; exact H
    clear H
    have H := H1
    clear H1
    by_cases c14 : 0 ≤ a0
    ·rw [if_pos c14] at H
     have c14b0 := eq_true c14
     have c14b1 : decide (0 ≤ a0) = true := decide_eq_true c14
     clear c14
     by_cases c15 : (a0 : Int).toNat ≤ 35184372088832
     ·rw [if_pos c15] at H
      have c15b0 := eq_true c15
      have c15b1 : decide ((a0 : Int).toNat ≤ 35184372088832) = true := decide_eq_true c15
      clear c15
      obtain ⟨y237, hy237⟩ : ∃ y_ : List Int, y_ = (List.replicate (a0 : Int).toNat 0) := ⟨_, rfl⟩
      replace H : (tenetref02_solve.l0 kj4 a0 t232 y237 0) = some (r1, r2) := by first | (rw [hy237]; with_reducible exact H) | (have H2_ := (Option.bind_some _ _).symm.trans H; rw [hy237]; with_reducible exact H2_) | (have H2_ := (Option.bind_some _ _).symm.trans H; with_reducible exact H2_) | with_reducible exact H | (rw [hy237]; exact H) | exact H
      have Ny237 := Aside0.mk hy237
      clear hy237
      have H' := Aside0.mk H
      clear H
      go_wp2_with (first | ((with_reducible refine gate_dst (N := 30) rfl ?_); refine Kd.R_make (Kd.int .i64) _ 3 rfl (N := 30) rfl 25 _ _ rfl a0 rfl rfl Try.underlying25 (.int .i64 0) 8 info3 rfl (by decide) (by omega) 0 (ok := fun _ => True) (okp := fun _ => True) rfl (fun _ hk => hk) trivial (of_decide_eq_true (by first | (with_reducible assumption) | assumption)) (Nat.le_trans (Nat.mul_le_mul_right _ (of_decide_eq_true (by first | (with_reducible assumption) | assumption) : a0.toNat ≤ 35184372088832)) (by omega)) (Below.refl _ _) (Nat.le_refl _) ?_; intro v238 w16 ho17 hb hg_ hnew_; clear hg_ hnew_; (first | rw [← Ny237.out] at ho17 | (simp only [Int.reduceToNat] at ho17; rw [← Ny237.out] at ho17)); have n0_ := Aside0.mk (Kd.R_below (by (with_reducible repeat (first | apply Kd.R_alloc | apply Kd.R_drewN | apply Kd.R_drew)); exact HO_6.out) hb); have n1_ := Aside0.mk (Kd.R_lower ho17 (below_size (by repeat (first | (with_reducible first | exact HB.out | apply below_alloc | apply pw_below_drewN | apply below_drew1) | exact HB.out)))); have n2_ := Aside0.mk (below_step (by repeat (first | (with_reducible first | exact HB.out | apply below_alloc | apply pw_below_drewN | apply below_drew1) | exact HB.out)) hb); clear HO_6; clear HB; have HO_6 := n0_; have HO239 := n1_; have HB := n2_; clear n0_ n1_ n2_; clear hb ho17))
      go_loopg [9] kj4 (fun kq v9 w' => ∃ (x8_2 : List Int) (x9_2 : Int), v9 = .int .i64 x9_2 ∧ Aside0 (tenetref02_solve.l0 kq a0 t232 x8_2 x9_2 = some (r1, r2)) ∧ Aside0 (kq ≤ kj4) ∧ Aside0 (Kd.R k94 94 w' w.heap.size (fun _ => True) v234 t232) ∧ Aside0 (Kd.R (Kd.int .i64) 3 w' w.heap.size (fun _ => True) v238 x8_2) ∧ Aside0 (Below w.heap.size w w'))
      case atStart => exact ⟨(y237), (0), (by first | rfl | (simp; done) | (simp [*]; done)), H', ⟨Nat.le_refl _⟩, ⟨by (with_reducible repeat (first | apply Kd.R_alloc | apply Kd.R_drewN | apply Kd.R_drew)); exact HO_6.out⟩, ⟨by (with_reducible repeat (first | apply Kd.R_alloc | apply Kd.R_drewN | apply Kd.R_drew)); exact HO239.out⟩, ⟨by repeat (first | (with_reducible first | exact HB.out | apply below_alloc | apply pw_below_drewN | apply below_drew1) | exact HB.out)⟩⟩
      case round =>
       clear H'
       try clear c1
       try clear p2
       try clear q2
       try clear hx2
       try clear c5
       try clear c6
       try clear c9
       try clear c10
       try clear c10b0
       try clear c11
       try clear c11b0
       try clear c13
       try clear c14
       try clear c14b0
       try clear c14b1
       try clear c15
       try clear c15b0
       try clear c15b1
       try clear hx236_0
       try clear hx236_1
       try clear p2
       try clear p236
       try clear q2
       try clear q236
       obtain ⟨x8_2, x9_2, rfl, HA, HK2, HO_6, HO_8, HB⟩ := hrel
       cases gk with
       | zero => exact absurd HA.out (by simp [tenetref02_solve.l0])
       | succ k2 =>
        have H := HA.out
        clear HA
        simp only [tenetref02_solve.l0] at H
        by_cases c18 : x9_2 < a0
        ·rw [if_pos c18] at H
         have c18b0 : decide (x9_2 < a0) = true := decide_eq_true c18
         clear c18
         by_cases c19 : 0 ≤ x9_2
         ·rw [if_pos c19] at H
          have c19b0 : decide (0 ≤ x9_2) = true := decide_eq_true c19
          clear c19
          by_cases c20 : x9_2 < (t232.length : Int)
          ·rw [if_pos c20] at H
           have c20b0 : decide (x9_2 < (t232.length : Int)) = true := decide_eq_true c20
           clear c20
           by_cases c21 : x9_2 < (x8_2.length : Int)
           ·rw [if_pos c21] at H
            have c21b0 : decide (x9_2 < (x8_2.length : Int)) = true := decide_eq_true c21
            clear c21
            obtain ⟨y241, hy241⟩ : ∃ y_ : List Int, y_ = (x8_2.set (x9_2 : Int).toNat ((rd_T94 t232 x9_2).f1)) := ⟨_, rfl⟩
            replace H : (tenetref02_solve.l0 k2 a0 t232 y241 (wrap64 (x9_2 + 1))) = some (r1, r2) := by first | (rw [hy241]; with_reducible exact H) | (have H2_ := (Option.bind_some _ _).symm.trans H; rw [hy241]; with_reducible exact H2_) | (have H2_ := (Option.bind_some _ _).symm.trans H; with_reducible exact H2_) | with_reducible exact H | (rw [hy241]; exact H) | exact H
            have Ny241 := Aside0.mk hy241
            clear hy241
            have H' := Aside0.mk H
            clear H
            obtain ⟨Ao23, co23, eo23⟩ := Kd.R_slice HO_6.out
            subst eo23
            have p240 : 0 ≤ (x9_2 : Int) := of_decide_eq_true (by first | (with_reducible assumption) | assumption)
            have q240 : x9_2 < (t232.length : Int) := of_decide_eq_true (by first | (with_reducible assumption) | assumption)
            obtain ⟨ad240, e240, hx240_0, hx240_1⟩ := at_T94 (Kd.R_reads' HO_6.out).2.2 x9_2 p240 q240
            cases e240
            replace p240 := eq_true p240
            replace q240 := eq_true q240
            have p22 : 0 ≤ (x9_2 : Int) := of_decide_eq_true (by first | (with_reducible assumption) | assumption)
            have q22 : (x9_2 : Int) < ((x8_2.length : Int) : Int) := of_decide_eq_true (by first | (with_reducible assumption) | assumption)
            obtain ⟨go22, co22, eo22, gb22, gl22, cl22, HG22⟩ := Kd.R_form HO_8.out (by omega)
            (first | cases eo22 | (injection eo22 with ea_ en_ ec_; (first | subst ea_ | (injection ea_ with ea_; subst ea_)); subst ec_; clear en_))
            have GB22 := Aside0.mk gb22
            have GG22 := Aside0.mk HG22
            clear gb22 gl22 HG22
            obtain ⟨hx22_0, hf22_0⟩ := Kd.R_celln 0 HO_8.out (x9_2 : Int) p22 q22
            replace p22 := eq_true p22
            replace q22 := eq_true q22
            have HP24 := Kd.R_putg HO_8.out (x9_2 : Int) ((rd_T94 t232 x9_2).f1)
            go_wp2_with (first | ((with_reducible refine gate_store (t := 3) (p := 43) rfl ?_); refine store_event (t := 3) (p := 43) (v := ?vo_w25) (w1 := (wr.setCell ⟨go22, (x9_2 : Int).toNat, none⟩ (.int .i64 ((rd_T94 t232 x9_2).f1)))) ?hg ?ho ?hn ?hr ?_; (case ho => rfl); (case hg => rfl); (case hn => rfl); (case hr => first | (go_simp; done) | (go_simp; rfl)); intro w25 hw; have hg : wr.grownBy w25 (some go22) := (by rw [hw]; exact HP24.2); have hp_ : Kd.R (Kd.int .i64) 3 w25 w.heap.size (fun _ => True) (.slice (some ⟨go22, 0, none⟩) x8_2.length co22) y241 := (by rw [hw, Ny241.out]; exact HP24.1); clear HP24; have n0_ := Aside0.mk (Kd.R_over' (v := (.slice (some ⟨go22, 0, none⟩) x8_2.length co22)) (by (with_reducible repeat (first | apply Kd.R_alloc | apply Kd.R_drewN | apply Kd.R_drew)); exact HO_6.out) (Kd.R_typed HO_8.out) (by decide) hg); have n1_ := Aside0.mk (hp_); have n2_ := Aside0.mk ((by rw [hw]; exact below_set (HB.out) GB22.out : Below w.heap.size w w25)); clear HO_6; clear HO_8; clear HB; have HO_6 := n0_; have HO_8 := n1_; have HB := n2_; clear n0_ n1_ n2_; clear hg hw hp_))
            go_roundg k2
            case measure => have := HJ4.out; have := HK2.out; omega
            case rel => exact ⟨(y241), (wrap64 (x9_2 + 1)), (by first | rfl | (simp; done) | (simp [*]; done)), H', ⟨by have := HJ4.out; have := HK2.out; omega⟩, ⟨by (with_reducible repeat (first | apply Kd.R_alloc | apply Kd.R_drewN | apply Kd.R_drew)); exact HO_6.out⟩, ⟨by (with_reducible repeat (first | apply Kd.R_alloc | apply Kd.R_drewN | apply Kd.R_drew)); exact HO_8.out⟩, ⟨by repeat (first | (with_reducible first | exact HB.out | apply below_alloc | apply pw_below_drewN | apply below_drew1) | exact HB.out)⟩⟩
           ·rw [if_neg c21] at H
            exact absurd H (by simp)
          ·rw [if_neg c20] at H
           exact absurd H (by simp)
         ·rw [if_neg c19] at H
          exact absurd H (by simp)
        ·rw [if_neg c18] at H
         have c18b0 : decide (x9_2 < a0) = false := decide_eq_false c18
         clear c18
         simp only [Option.some.injEq, Prod.mk.injEq] at H
         obtain ⟨rfl, rfl⟩ := H
         go_wp2
         go_ret2
         exact ⟨_, by first | rfl | (simp [errW_none, errW_some] <;> rfl) | (simp [*, errW_none, errW_some] <;> rfl), by (with_reducible repeat (first | apply Kd.R_alloc | apply Kd.R_drewN | apply Kd.R_drew)); exact HO_8.out, by repeat (first | (with_reducible first | exact HB.out | apply below_alloc | apply pw_below_drewN | apply below_drew1) | exact HB.out)⟩
     ·rw [if_neg c15] at H
      exact absurd H (by simp)
    ·rw [if_neg c14] at H
     exact absurd H (by simp)
mutual
def tenetref02_Classes.l0 : Nat → Int → List Int → List (S108) → List (S108) → Int → Option ((List (List Int)) × Int)
 | 0, _, _, _, _, _ => none
 | k + 1, x0, x6, x8, x9, x10 => if x10 < (x8.length : Int) then (if 0 ≤ x10 then (if x9.length < 5864062014805 then (tenetref02_Classes.l0 k x0 x6 x8 (x9 ++ [(⟨(rd_T108 x8 x10).f1, (rd_T108 x8 x10).f0, wrap64 (-((rd_T108 x8 x10).f2))⟩ : S108)]) (wrap64 (x10 + 1))) else (none)) else (none)) else (if 0 ≤ x0 then (if (x0 : Int).toNat ≤ 281474976710656 then (tenetref02_Classes.l1 k x0 x6 x8 x9 (List.replicate (x0 : Int).toNat false) ([] : List (List Int)) 0) else (none)) else (none))
def tenetref02_Classes.l1 : Nat → Int → List Int → List (S108) → List (S108) → List Bool → List (List Int) → Int → Option ((List (List Int)) × Int)
 | 0, _, _, _, _, _, _, _ => none
 | k + 1, x0, x6, x8, x9, x11, x12, x13 => if x13 < x0 then (if 0 ≤ x13 then (if x13 < (x11.length : Int) then (if rdOf false x11 x13 = true then (tenetref02_Classes.l1 k x0 x6 x8 x9 x11 x12 (wrap64 (x13 + 1))) else ((tenetref02_reached.f k x0 x8 x6 x13).bind fun t559 => ((tenetref02_reached.f k x0 x9 x6 x13).bind fun t562 => (tenetref02_Classes.l2 k x0 x6 x8 x9 x11 x12 x13 t559 t562 ([] : List Int) x13)))) else (none)) else (none)) else (some (x12, 0))
def tenetref02_Classes.l2 : Nat → Int → List Int → List (S108) → List (S108) → List Bool → List (List Int) → Int → List Bool → List Bool → List Int → Int → Option ((List (List Int)) × Int)
 | 0, _, _, _, _, _, _, _, _, _, _, _ => none
 | k + 1, x0, x6, x8, x9, x11, x12, x13, x14, x15, x16, x17 => if x17 < x0 then (if 0 ≤ x17 then (if x17 < (x14.length : Int) then (if rdOf false x14 x17 = true then (if x17 < (x15.length : Int) then (if rdOf false x15 x17 = true then (if x17 < (x6.length : Int) then (if 0 ≤ x13 then (if x13 < (x6.length : Int) then (if (rd x6 x17) = (rd x6 x13) then (if x17 < (x11.length : Int) then (if rdOf false x11 x17 = true then (tenetref02_Classes.l2 k x0 x6 x8 x9 x11 x12 x13 x14 x15 x16 (wrap64 (x17 + 1))) else (if x16.length < 17592186044416 then (tenetref02_Classes.l2 k x0 x6 x8 x9 (x11.set (x17 : Int).toNat true) x12 x13 x14 x15 (x16 ++ [x17]) (wrap64 (x17 + 1))) else (none))) else (none)) else (tenetref02_Classes.l2 k x0 x6 x8 x9 x11 x12 x13 x14 x15 x16 (wrap64 (x17 + 1)))) else (none)) else (none)) else (none)) else (tenetref02_Classes.l2 k x0 x6 x8 x9 x11 x12 x13 x14 x15 x16 (wrap64 (x17 + 1)))) else (none)) else (tenetref02_Classes.l2 k x0 x6 x8 x9 x11 x12 x13 x14 x15 x16 (wrap64 (x17 + 1)))) else (none)) else (none)) else (if (x16.length : Int) > 1 then (if x12.length < 5864062014805 then (tenetref02_Classes.l1 k x0 x6 x8 x9 x11 (x12 ++ [x16]) (wrap64 (x13 + 1))) else (none)) else (tenetref02_Classes.l1 k x0 x6 x8 x9 x11 x12 (wrap64 (x13 + 1))))
end
def tenetref02_Classes.f (k : Nat) (a0 : Int) (l1 : List (S44)) : Option ((List (List Int)) × Int) := (tenetref02_Valid.f k a0 l1).bind fun t541 => (if t541 = true then ((tenetref02_solve.f k a0 l1).bind fun bt542 => (if bt542.2 = true then ((tenetref02_edges.f k a0 l1).bind fun t546 => (tenetref02_Classes.l0 k a0 bt542.1 t546 ([] : List (S108)) 0)) else (some (([] : List (List Int)), 20)))) else (some (([] : List (List Int)), 4)))
theorem tenetref02_Classes.mono_l : ∀ k, (∀ y0 y1 y2 y3 y4, LeO (tenetref02_Classes.l0 k y0 y1 y2 y3 y4) (tenetref02_Classes.l0 (k + 1) y0 y1 y2 y3 y4)) ∧ (∀ y0 y1 y2 y3 y4 y5 y6, LeO (tenetref02_Classes.l1 k y0 y1 y2 y3 y4 y5 y6) (tenetref02_Classes.l1 (k + 1) y0 y1 y2 y3 y4 y5 y6)) ∧ (∀ y0 y1 y2 y3 y4 y5 y6 y7 y8 y9 y10, LeO (tenetref02_Classes.l2 k y0 y1 y2 y3 y4 y5 y6 y7 y8 y9 y10) (tenetref02_Classes.l2 (k + 1) y0 y1 y2 y3 y4 y5 y6 y7 y8 y9 y10))
 | 0 => ⟨fun _ _ _ _ _ r h => by simp [tenetref02_Classes.l0] at h, fun _ _ _ _ _ _ _ r h => by simp [tenetref02_Classes.l1] at h, fun _ _ _ _ _ _ _ _ _ _ _ r h => by simp [tenetref02_Classes.l2] at h⟩
 | k + 1 => by
  obtain ⟨ih0, ih1, ih2⟩ := tenetref02_Classes.mono_l k
  refine ⟨?_, ?_, ?_⟩
  ·intro y0 y1 y2 y3 y4
   unfold tenetref02_Classes.l0
   repeat' first
   | (with_reducible exact ih0 _ _ _ _ _)
   | (with_reducible exact ih1 _ _ _ _ _ _ _)
   | (with_reducible exact ih2 _ _ _ _ _ _ _ _ _ _ _)
   | (with_reducible exact tenetref02_Valid.mono _ _ _)
   | (with_reducible exact tenetref02_edges.mono _ _ _)
   | (with_reducible exact tenetref02_reached.mono _ _ _ _ _)
   | (with_reducible exact tenetref02_solve.mono _ _ _)
   | (with_reducible exact LeO.refl _)
   | (with_reducible exact LeO.none _)
   | (with_reducible refine LeO.ite ?_ ?_)
   | (with_reducible refine LeO.bind ?_ (fun _ => ?_))
   | exact ih0 _ _ _ _ _
   | exact ih1 _ _ _ _ _ _ _
   | exact ih2 _ _ _ _ _ _ _ _ _ _ _
   | exact tenetref02_Valid.mono _ _ _
   | exact tenetref02_edges.mono _ _ _
   | exact tenetref02_reached.mono _ _ _ _ _
   | exact tenetref02_solve.mono _ _ _
   | exact LeO.none _
   | refine LeO.ite ?_ ?_
   | refine LeO.bind ?_ (fun _ => ?_)
  ·intro y0 y1 y2 y3 y4 y5 y6
   unfold tenetref02_Classes.l1
   repeat' first
   | (with_reducible exact ih0 _ _ _ _ _)
   | (with_reducible exact ih1 _ _ _ _ _ _ _)
   | (with_reducible exact ih2 _ _ _ _ _ _ _ _ _ _ _)
   | (with_reducible exact tenetref02_Valid.mono _ _ _)
   | (with_reducible exact tenetref02_edges.mono _ _ _)
   | (with_reducible exact tenetref02_reached.mono _ _ _ _ _)
   | (with_reducible exact tenetref02_solve.mono _ _ _)
   | (with_reducible exact LeO.refl _)
   | (with_reducible exact LeO.none _)
   | (with_reducible refine LeO.ite ?_ ?_)
   | (with_reducible refine LeO.bind ?_ (fun _ => ?_))
   | exact ih0 _ _ _ _ _
   | exact ih1 _ _ _ _ _ _ _
   | exact ih2 _ _ _ _ _ _ _ _ _ _ _
   | exact tenetref02_Valid.mono _ _ _
   | exact tenetref02_edges.mono _ _ _
   | exact tenetref02_reached.mono _ _ _ _ _
   | exact tenetref02_solve.mono _ _ _
   | exact LeO.none _
   | refine LeO.ite ?_ ?_
   | refine LeO.bind ?_ (fun _ => ?_)
  ·intro y0 y1 y2 y3 y4 y5 y6 y7 y8 y9 y10
   unfold tenetref02_Classes.l2
   repeat' first
   | (with_reducible exact ih0 _ _ _ _ _)
   | (with_reducible exact ih1 _ _ _ _ _ _ _)
   | (with_reducible exact ih2 _ _ _ _ _ _ _ _ _ _ _)
   | (with_reducible exact tenetref02_Valid.mono _ _ _)
   | (with_reducible exact tenetref02_edges.mono _ _ _)
   | (with_reducible exact tenetref02_reached.mono _ _ _ _ _)
   | (with_reducible exact tenetref02_solve.mono _ _ _)
   | (with_reducible exact LeO.refl _)
   | (with_reducible exact LeO.none _)
   | (with_reducible refine LeO.ite ?_ ?_)
   | (with_reducible refine LeO.bind ?_ (fun _ => ?_))
   | exact ih0 _ _ _ _ _
   | exact ih1 _ _ _ _ _ _ _
   | exact ih2 _ _ _ _ _ _ _ _ _ _ _
   | exact tenetref02_Valid.mono _ _ _
   | exact tenetref02_edges.mono _ _ _
   | exact tenetref02_reached.mono _ _ _ _ _
   | exact tenetref02_solve.mono _ _ _
   | exact LeO.none _
   | refine LeO.ite ?_ ?_
   | refine LeO.bind ?_ (fun _ => ?_)
theorem tenetref02_Classes.mono : ∀ a0 a1 k, LeO (tenetref02_Classes.f k a0 a1) (tenetref02_Classes.f (k + 1) a0 a1) := by
 intro a0 a1 k
 obtain ⟨ih0, ih1, ih2⟩ := tenetref02_Classes.mono_l k
 unfold tenetref02_Classes.f
 repeat' first
   | (with_reducible exact ih0 _ _ _ _ _)
   | (with_reducible exact ih1 _ _ _ _ _ _ _)
   | (with_reducible exact ih2 _ _ _ _ _ _ _ _ _ _ _)
   | (with_reducible exact tenetref02_Valid.mono _ _ _)
   | (with_reducible exact tenetref02_edges.mono _ _ _)
   | (with_reducible exact tenetref02_reached.mono _ _ _ _ _)
   | (with_reducible exact tenetref02_solve.mono _ _ _)
   | (with_reducible exact LeO.refl _)
   | (with_reducible exact LeO.none _)
   | (with_reducible refine LeO.ite ?_ ?_)
   | (with_reducible refine LeO.bind ?_ (fun _ => ?_))
   | exact ih0 _ _ _ _ _
   | exact ih1 _ _ _ _ _ _ _
   | exact ih2 _ _ _ _ _ _ _ _ _ _ _
   | exact tenetref02_Valid.mono _ _ _
   | exact tenetref02_edges.mono _ _ _
   | exact tenetref02_reached.mono _ _ _ _ _
   | exact tenetref02_solve.mono _ _ _
   | exact LeO.none _
   | refine LeO.ite ?_ ?_
   | refine LeO.bind ?_ (fun _ => ?_)
def tenetref02_Classes.T11 : Bool × List (List Nat × List Nat) := (true, [([], []), ([], []), ([], []), ([1, 2], [1, 2]), ([3], [3]), ([4], [4]), ([], []), ([], []), ([6, 7], [6, 7]), ([8], [8]), ([9], [9]), ([], []), ([], []), ([11, 12], [11, 12]), ([13], [13]), ([14], [14]), ([15], [15]), ([5, 10, 16], [5, 10, 16]), ([17], [17]), ([0, 18], [0, 18]), ([19, 19, 0, 1, 2, 3, 4, 5, 6, 7, 8, 9, 10, 11, 12, 13, 14, 15, 16, 17, 18, 19], [0, 19])])
def tenetref02_Classes.B11 : List Nat := [0, 0, 0, 6, 14, 30, 0, 0, 192, 448, 960, 0, 0, 6144, 14336, 30720, 63488, 131070, 262142, 524287, 1048575]
theorem tenetref02_Classes.tab11 : rtab .any (opsOf Try.f39 11) = tenetref02_Classes.T11 := by kernel_rfl
theorem tenetref02_Classes.bits11 : waitsOk tenetref02_Classes.T11.2 tenetref02_Classes.B11 = true := by kernel_rfl
set_option maxHeartbeats 8000000 in
set_option maxRecDepth 100000 in
theorem tenetref02_Classes.calls (k : Nat) (a0 : Int) (A1 : Option Addr) (c1 : Nat) (l1 : List (S44)) (r1 : List (List Int)) (r2 : Int) (w : World) (hr1 : Kd.C k44 w A1 l1.length l1) (hc1 : l1.length ≤ c1) (h : tenetref02_Classes.f k a0 l1 = some (r1, r2)) :
  Calls Try.prog 39 #[.int .i64 a0, .slice A1 l1.length c1] w fun e w' => ∃ v0_ : Value, e = .returned (.tuple #[v0_, .int .i64 r2]) ∧ Kd.S (Kd.slice 3 (Kd.int .i64)) 25 w' w.heap.size (fun _ => True) v0_ r1 ∧ Below w.heap.size w w' := by
 have hu108 := Try.underlying108
 have HR1 := Aside0.mk hr1
 have HC1 := Aside0.mk hc1
 clear hr1 hc1
 have HB := Aside0.mk (Below.refl w.heap.size w)
 have H : ((tenetref02_Valid.f k a0 l1).bind fun t541 => (if t541 = true then ((tenetref02_solve.f k a0 l1).bind fun bt542 => (if bt542.2 = true then ((tenetref02_edges.f k a0 l1).bind fun t546 => (tenetref02_Classes.l0 k a0 bt542.1 t546 ([] : List (S108)) 0)) else (some (([] : List (List Int)), 20)))) else (some (([] : List (List Int)), 4)))) = some (r1, r2) := h
 clear h
 replace H := Option.bind_eq_some_iff.mp H
 obtain ⟨t541, A30, H⟩ := H
 replace H : (if t541 = true then ((tenetref02_solve.f k a0 l1).bind fun bt542 => (if bt542.2 = true then ((tenetref02_edges.f k a0 l1).bind fun t546 => (tenetref02_Classes.l0 k a0 bt542.1 t546 ([] : List (S108)) 0)) else (some (([] : List (List Int)), 20)))) else (some (([] : List (List Int)), 4))) = some (r1, r2) := H
 have A3 := Aside0.mk A30
 clear A30
 by_cases c4 : t541 = true
 ·subst c4
  have H1 : ((tenetref02_solve.f k a0 l1).bind fun bt542 => (if bt542.2 = true then ((tenetref02_edges.f k a0 l1).bind fun t546 => (tenetref02_Classes.l0 k a0 bt542.1 t546 ([] : List (S108)) 0)) else (some (([] : List (List Int)), 20)))) = some (r1, r2) := by rw [if_pos rfl] at H; exact H
  clear H
  have H := H1
  clear H1
  replace H := Option.bind_eq_some_iff.mp H
  obtain ⟨⟨t542, t543⟩, A50, H⟩ := H
  replace H : (if t543 = true then ((tenetref02_edges.f k a0 l1).bind fun t546 => (tenetref02_Classes.l0 k a0 t542 t546 ([] : List (S108)) 0)) else (some (([] : List (List Int)), 20))) = some (r1, r2) := H
  have A5 := Aside0.mk A50
  clear A50
  by_cases c6 : t543 = true
  ·subst c6
   have H1 : ((tenetref02_edges.f k a0 l1).bind fun t546 => (tenetref02_Classes.l0 k a0 t542 t546 ([] : List (S108)) 0)) = some (r1, r2) := by rw [if_pos rfl] at H; exact H
   clear H
   have H := H1
   clear H1
   replace H := Option.bind_eq_some_iff.mp H
   obtain ⟨t546, A70, H⟩ := H
   replace H : (tenetref02_Classes.l0 k a0 t542 t546 ([] : List (S108)) 0) = some (r1, r2) := H
   have A7 := Aside0.mk A70
   clear A70
   have H' := Aside0.mk H
   clear H
   go_enter Try.func39, Try.ntmps39
   go_wp2_with (first | ((with_reducible refine gate_callee (f := 25) rfl ?_); refine goesL_ (some 20) rfl rfl Try.func25 (by kernel_rfl) rfl #[.int .i64 a0, .slice A1 l1.length c1] rfl (by (try simp only [List.map_toArray, List.map_cons, List.map_nil]); first | done | rfl | (simp only [List.length_drop, List.length_take]; rfl)) ?_; (with_reducible refine (tenetref02_Valid.calls k a0 _ _ l1 true _ ?side1 ?side2 A3.out).mono ?_); (case side1 => repeat (first | exact HR1.out | (with_reducible refine Kd.C_alloc ?_ _) | (with_reducible refine Kd.C_drewN ?_ _) | (with_reducible refine Kd.C_drew ?_))); (case side2 => exact HC1.out); rintro e w8 ⟨rfl, hb⟩; refine ⟨_, rfl, ?_⟩; have n0_ := Aside0.mk (below_step (by repeat (first | (with_reducible first | exact HB.out | apply below_alloc | apply pw_below_drewN | apply below_drew1) | exact HB.out)) hb); clear HB; have HB := n0_; clear n0_; (try clear hb); (try clear hb2); (try clear hk); (try clear hi)) | ((with_reducible refine gate_callee (f := 50) rfl ?_); refine goesL_ (some 25) rfl rfl Try.func50 (by kernel_rfl) rfl #[.int .i64 a0, .slice A1 l1.length c1] rfl (by (try simp only [List.map_toArray, List.map_cons, List.map_nil]); first | done | rfl | (simp only [List.length_drop, List.length_take]; rfl)) ?_; (with_reducible refine (tenetref02_solve.calls k a0 _ _ l1 t542 true _ ?side1 ?side2 A5.out).mono ?_); (case side1 => repeat (first | exact (Kd.C_below HR1.out HB.out) | (with_reducible refine Kd.C_alloc ?_ _) | (with_reducible refine Kd.C_drewN ?_ _) | (with_reducible refine Kd.C_drew ?_))); (case side2 => exact HC1.out); rintro e w9 ⟨v544, rfl, ho0, hb⟩; refine ⟨_, rfl, ?_⟩; have n0_ := Aside0.mk (Kd.R_lower ho0 (below_size (by repeat (first | (with_reducible first | exact HB.out | apply below_alloc | apply pw_below_drewN | apply below_drew1) | exact HB.out)))); have n1_ := Aside0.mk (below_step (by repeat (first | (with_reducible first | exact HB.out | apply below_alloc | apply pw_below_drewN | apply below_drew1) | exact HB.out)) hb); clear HB; have HO545 := n0_; have HB := n1_; clear n0_ n1_; (try clear hb); (try clear hb2); (try clear hk); (try clear hi); (try clear ho0)) | ((with_reducible refine gate_callee (f := 64) rfl ?_); refine goesL_ (some 32) rfl rfl Try.func64 (by kernel_rfl) rfl #[.int .i64 a0, .slice A1 l1.length c1] rfl (by (try simp only [List.map_toArray, List.map_cons, List.map_nil]); first | done | rfl | (simp only [List.length_drop, List.length_take]; rfl)) ?_; (with_reducible refine (tenetref02_edges.calls k a0 _ _ l1 t546 _ ?side1 ?side2 A7.out).mono ?_); (case side1 => repeat (first | exact (Kd.C_below HR1.out HB.out) | (with_reducible refine Kd.C_alloc ?_ _) | (with_reducible refine Kd.C_drewN ?_ _) | (with_reducible refine Kd.C_drew ?_))); (case side2 => exact HC1.out); rintro e w10 ⟨v547, rfl, ho0, hb⟩; refine ⟨_, rfl, ?_⟩; have n0_ := Aside0.mk (Kd.R_below (by (with_reducible repeat (first | apply Kd.R_alloc | apply Kd.R_drewN | apply Kd.R_drew)); exact HO545.out) hb); have n1_ := Aside0.mk (Kd.R_lower ho0 (below_size (by repeat (first | (with_reducible first | exact HB.out | apply below_alloc | apply pw_below_drewN | apply below_drew1) | exact HB.out)))); have n2_ := Aside0.mk (below_step (by repeat (first | (with_reducible first | exact HB.out | apply below_alloc | apply pw_below_drewN | apply below_drew1) | exact HB.out)) hb); clear HO545; clear HB; have HO545 := n0_; have HO548 := n1_; have HB := n2_; clear n0_ n1_ n2_; (try clear hb); (try clear hb2); (try clear hk); (try clear hi); (try clear ho0)))
   go_loopg [9, 10] k (fun kq v9 v10 w' => ∃ (x9_1 : List (S108)) (x10_1 : Int), v10 = .int .i64 x10_1 ∧ Aside0 (tenetref02_Classes.l0 kq a0 t542 t546 x9_1 x10_1 = some (r1, r2)) ∧ Aside0 (kq ≤ k) ∧ Aside0 (Kd.R (Kd.int .i64) 3 w' w.heap.size (fun _ => True) v544 t542) ∧ Aside0 (Kd.R k108 108 w' w.heap.size (fun k_ => some k_ ≠ (v9 : Value).ownBlock) v547 t546) ∧ Aside0 (Kd.R k108 108 w' w.heap.size (fun k_ => some k_ ≠ (v547 : Value).ownBlock) v9 x9_1) ∧ Aside0 (Below w.heap.size w w'))
   case atStart => exact ⟨(([] : List (S108))), (0), (by first | rfl | (simp; done) | (simp [*]; done)), H', ⟨Nat.le_refl _⟩, ⟨by (with_reducible repeat (first | apply Kd.R_alloc | apply Kd.R_drewN | apply Kd.R_drew)); exact HO545.out⟩, ⟨by (with_reducible repeat (first | apply Kd.R_alloc | apply Kd.R_drewN | apply Kd.R_drew)); exact Kd.R_mono HO548.out (fun _ hk => (by simp [Value.ownBlock]))⟩, ⟨by first | exact Kd.R_nil _ _ _ _ _ | exact Kd.N_nil _ _ _ _ _ | exact Kd.V_nil _ _ _ _ _ | exact Kd.Q_nil _ _ _ _ _ | exact Kd.S_nil _ _ _ _ _⟩, ⟨by repeat (first | (with_reducible first | exact HB.out | apply below_alloc | apply pw_below_drewN | apply below_drew1) | exact HB.out)⟩⟩
   case round =>
    clear H'
    try clear c1
    try clear c2
    try clear p2
    try clear c3
    try clear c4
    try clear c5
    try clear c6
    obtain ⟨x9_1, x10_1, rfl, HA, HK1, HO_6, HO_8, HO_9, HB⟩ := hrel
    cases gk with
    | zero => exact absurd HA.out (by simp [tenetref02_Classes.l0])
    | succ k1 =>
     have H := HA.out
     clear HA
     simp only [tenetref02_Classes.l0] at H
     by_cases c11 : x10_1 < (t546.length : Int)
     ·rw [if_pos c11] at H
      have c11b0 : decide (x10_1 < (t546.length : Int)) = true := decide_eq_true c11
      clear c11
      by_cases c12 : 0 ≤ x10_1
      ·rw [if_pos c12] at H
       have c12b0 : decide (0 ≤ x10_1) = true := decide_eq_true c12
       clear c12
       by_cases c13 : x9_1.length < 5864062014805
       ·rw [if_pos c13] at H
        have LMc13 := Aside0.mk c13
        clear c13
        obtain ⟨y552, hy552⟩ : ∃ y_ : List (S108), y_ = (x9_1 ++ [(⟨(rd_T108 t546 x10_1).f1, (rd_T108 t546 x10_1).f0, wrap64 (-((rd_T108 t546 x10_1).f2))⟩ : S108)]) := ⟨_, rfl⟩
        replace H : (tenetref02_Classes.l0 k1 a0 t542 t546 y552 (wrap64 (x10_1 + 1))) = some (r1, r2) := by first | (rw [hy552]; with_reducible exact H) | (have H2_ := (Option.bind_some _ _).symm.trans H; rw [hy552]; with_reducible exact H2_) | (have H2_ := (Option.bind_some _ _).symm.trans H; with_reducible exact H2_) | with_reducible exact H | (rw [hy552]; exact H) | exact H
        have Ny552 := Aside0.mk hy552
        clear hy552
        have H' := Aside0.mk H
        clear H
        obtain ⟨Ao14, co14, eo14⟩ := Kd.R_slice HO_8.out
        subst eo14
        try go_wp2
        have n0_ := Aside0.mk (Kd.R_drew HO_6.out)
        have n1_ := Aside0.mk (Kd.R_drew HO_8.out)
        have n2_ := Aside0.mk (Kd.R_drew HO_9.out)
        have n3_ := Aside0.mk (below_drew1 HB.out)
        clear HO_6
        clear HO_8
        clear HO_9
        clear HB
        have HO_6 := n0_
        have HO_8 := n1_
        have HO_9 := n2_
        have HB := n3_
        clear n0_ n1_ n2_ n3_
        have p549 : 0 ≤ (x10_1 : Int) := of_decide_eq_true (by first | (with_reducible assumption) | assumption)
        have q549 : x10_1 < (t546.length : Int) := of_decide_eq_true (by first | (with_reducible assumption) | assumption)
        obtain ⟨ad549, e549, hx549_0, hx549_1, hx549_2⟩ := at_T108 (Kd.R_reads' HO_8.out).2.2 x10_1 p549 q549
        cases e549
        replace p549 := eq_true p549
        replace q549 := eq_true q549
        have p550 : 0 ≤ (x10_1 : Int) := of_decide_eq_true (by first | (with_reducible assumption) | assumption)
        have q550 : x10_1 < (t546.length : Int) := of_decide_eq_true (by first | (with_reducible assumption) | assumption)
        obtain ⟨ad550, e550, hx550_0, hx550_1, hx550_2⟩ := at_T108 (Kd.R_reads' HO_8.out).2.2 x10_1 p550 q550
        obtain rfl : ad549 = ad550 := (by injection e550)
        replace p550 := eq_true p550
        replace q550 := eq_true q550
        have p551 : 0 ≤ (x10_1 : Int) := of_decide_eq_true (by first | (with_reducible assumption) | assumption)
        have q551 : x10_1 < (t546.length : Int) := of_decide_eq_true (by first | (with_reducible assumption) | assumption)
        obtain ⟨ad551, e551, hx551_0, hx551_1, hx551_2⟩ := at_T108 (Kd.R_reads' HO_8.out).2.2 x10_1 p551 q551
        obtain rfl : ad549 = ad551 := (by injection e551)
        replace p551 := eq_true p551
        replace q551 := eq_true q551
        refine start_ (n := 21) (S := fun w' => w'.cell? (ad549.add ((x10_1).toNat * 3)) = some (.int .i64 ((rd_T108 t546 x10_1).f0)) ∧ w'.cell? ⟨(ad549.add ((x10_1).toNat * 3)).block, (ad549.add ((x10_1).toNat * 3)).off + 1, none⟩ = some (.int .i64 ((rd_T108 t546 x10_1).f1)) ∧ w'.cell? ⟨(ad549.add ((x10_1).toNat * 3)).block, (ad549.add ((x10_1).toNat * 3)).off + 2, none⟩ = some (.int .i64 ((rd_T108 t546 x10_1).f2)) ∧ w'.cell? (ad549.add ((x10_1).toNat * 3)) = some (.int .i64 ((rd_T108 t546 x10_1).f0)) ∧ w'.cell? ⟨(ad549.add ((x10_1).toNat * 3)).block, (ad549.add ((x10_1).toNat * 3)).off + 1, none⟩ = some (.int .i64 ((rd_T108 t546 x10_1).f1)) ∧ w'.cell? ⟨(ad549.add ((x10_1).toNat * 3)).block, (ad549.add ((x10_1).toNat * 3)).off + 2, none⟩ = some (.int .i64 ((rd_T108 t546 x10_1).f2)) ∧ w'.cell? (ad549.add ((x10_1).toNat * 3)) = some (.int .i64 ((rd_T108 t546 x10_1).f0)) ∧ w'.cell? ⟨(ad549.add ((x10_1).toNat * 3)).block, (ad549.add ((x10_1).toNat * 3)).off + 1, none⟩ = some (.int .i64 ((rd_T108 t546 x10_1).f1)) ∧ w'.cell? ⟨(ad549.add ((x10_1).toNat * 3)).block, (ad549.add ((x10_1).toNat * 3)).off + 2, none⟩ = some (.int .i64 ((rd_T108 t546 x10_1).f2))) (ds := [18, 19]) #[false, false, false, false, false, false, false, false, false, false, false, false, false, false, false, false, false, false, false, false, false] (by kernel_rfl) rfl rfl ⟨hx549_0, hx549_1, hx549_2, hx550_0, hx550_1, hx550_2, hx551_0, hx551_1, hx551_2⟩ (fun hHeld => ?_); refine with_tabW tenetref02_Classes.tab11 tenetref02_Classes.bits11 (fun HT_ HW_ => ?_)
        generalize wr.drew = w15 at HO_6 HO_8 HO_9 HB hx549_0 hx549_1 hx549_2 hx550_0 hx550_1 hx550_2 hx551_0 hx551_1 hx551_2 hHeld ⊢
        refine pure_ (i := 0) (N := some 39) (v := ?_) (a' := ?_) #[true, false, false, false, false, false, false, false, false, false, false, false, false, false, false, false, false, false, false, false, false] rfl rfl (any_of HT_.out (by kernel_rfl)) (fun _ _ _ h => h) (Or.inl ⟨by rfl, ?_⟩) ?_ ?_
        rotate_left
        ·intro w'
         go_simp
         with_reducible rfl
        rotate_left
        ·simp only [Act.put, List.setIfInBounds_toArray, List.set_cons_zero, List.set_cons_succ, i64_w, i32_w]
         rfl
        refine pure_ (i := 1) (N := some 40) (v := ?_) (a' := ?_) #[true, true, false, false, false, false, false, false, false, false, false, false, false, false, false, false, false, false, false, false, false] rfl rfl (any_of HT_.out (by kernel_rfl)) (fun _ _ _ h => h) (Or.inl ⟨by rfl, ?_⟩) ?_ ?_
        rotate_left
        ·intro w'
         go_simp
         with_reducible rfl
        rotate_left
        ·simp only [Act.put, List.setIfInBounds_toArray, List.set_cons_zero, List.set_cons_succ, i64_w, i32_w]
         rfl
        refine pure_ (i := 2) (N := some 41) (v := ?_) (a' := ?_) #[true, true, true, false, false, false, false, false, false, false, false, false, false, false, false, false, false, false, false, false, false] rfl rfl (any_of HT_.out (by kernel_rfl)) (fun _ _ _ h => h) (Or.inl ⟨by rfl, ?_⟩) ?_ ?_
        rotate_left
        ·intro w'
         go_simp
         with_reducible rfl
        rotate_left
        ·simp only [Act.put, List.setIfInBounds_toArray, List.set_cons_zero, List.set_cons_succ, i64_w, i32_w]
         rfl
        refine pure_ (i := 3) (N := some 42) (v := ?_) (a' := ?_) #[true, true, true, true, false, false, false, false, false, false, false, false, false, false, false, false, false, false, false, false, false] rfl rfl (any_of HT_.out (by kernel_rfl)) (fun _ _ _ h => h) (Or.inl ⟨by rfl, ?_⟩) ?_ ?_
        rotate_left
        ·intro w'
         go_simp
         with_reducible rfl
        rotate_left
        ·simp only [Act.put, List.setIfInBounds_toArray, List.set_cons_zero, List.set_cons_succ, i64_w, i32_w]
         rfl
        refine pure_ (i := 4) (N := some 43) (v := ?_) (a' := ?_) #[true, true, true, true, true, false, false, false, false, false, false, false, false, false, false, false, false, false, false, false, false] rfl rfl (any_of HT_.out (by kernel_rfl)) (fun _ _ _ h => h) (Or.inl ⟨by rfl, ?_⟩) ?_ ?_
        rotate_left
        ·intro w'
         go_simp
         with_reducible rfl
        rotate_left
        ·simp only [Act.put, List.setIfInBounds_toArray, List.set_cons_zero, List.set_cons_succ, i64_w, i32_w]
         rfl
        refine pure_ (i := 6) (N := some 45) (v := ?_) (a' := ?_) #[true, true, true, true, true, false, true, false, false, false, false, false, false, false, false, false, false, false, false, false, false] rfl rfl (any_of HT_.out (by kernel_rfl)) (fun _ _ _ h => h) (Or.inl ⟨by rfl, ?_⟩) ?_ ?_
        rotate_left
        ·intro w'
         go_simp
         with_reducible rfl
        rotate_left
        ·simp only [Act.put, List.setIfInBounds_toArray, List.set_cons_zero, List.set_cons_succ, i64_w, i32_w]
         rfl
        refine pure_ (i := 7) (N := some 46) (v := ?_) (a' := ?_) #[true, true, true, true, true, false, true, true, false, false, false, false, false, false, false, false, false, false, false, false, false] rfl rfl (any_of HT_.out (by kernel_rfl)) (fun _ _ _ h => h) (Or.inl ⟨by rfl, ?_⟩) ?_ ?_
        rotate_left
        ·intro w'
         go_simp
         with_reducible rfl
        rotate_left
        ·simp only [Act.put, List.setIfInBounds_toArray, List.set_cons_zero, List.set_cons_succ, i64_w, i32_w]
         rfl
        refine pure_ (i := 8) (N := some 47) (v := ?_) (a' := ?_) #[true, true, true, true, true, false, true, true, true, false, false, false, false, false, false, false, false, false, false, false, false] rfl rfl (any_of HT_.out (by kernel_rfl)) (fun _ _ _ h => h) (Or.inl ⟨by rfl, ?_⟩) ?_ ?_
        rotate_left
        ·intro w'
         go_simp
         with_reducible rfl
        rotate_left
        ·simp only [Act.put, List.setIfInBounds_toArray, List.set_cons_zero, List.set_cons_succ, i64_w, i32_w]
         rfl
        refine pure_ (i := 9) (N := some 48) (v := ?_) (a' := ?_) #[true, true, true, true, true, false, true, true, true, true, false, false, false, false, false, false, false, false, false, false, false] rfl rfl (any_of HT_.out (by kernel_rfl)) (fun _ _ _ h => h) (Or.inl ⟨by rfl, ?_⟩) ?_ ?_
        rotate_left
        ·intro w'
         go_simp
         with_reducible rfl
        rotate_left
        ·simp only [Act.put, List.setIfInBounds_toArray, List.set_cons_zero, List.set_cons_succ, i64_w, i32_w]
         rfl
        refine pure_ (i := 11) (N := some 50) (v := ?_) (a' := ?_) #[true, true, true, true, true, false, true, true, true, true, false, true, false, false, false, false, false, false, false, false, false] rfl rfl (any_of HT_.out (by kernel_rfl)) (fun _ _ _ h => h) (Or.inl ⟨by rfl, ?_⟩) ?_ ?_
        rotate_left
        ·intro w'
         go_simp
         with_reducible rfl
        rotate_left
        ·simp only [Act.put, List.setIfInBounds_toArray, List.set_cons_zero, List.set_cons_succ, i64_w, i32_w]
         rfl
        refine pure_ (i := 12) (N := some 51) (v := ?_) (a' := ?_) #[true, true, true, true, true, false, true, true, true, true, false, true, true, false, false, false, false, false, false, false, false] rfl rfl (any_of HT_.out (by kernel_rfl)) (fun _ _ _ h => h) (Or.inl ⟨by rfl, ?_⟩) ?_ ?_
        rotate_left
        ·intro w'
         go_simp
         with_reducible rfl
        rotate_left
        ·simp only [Act.put, List.setIfInBounds_toArray, List.set_cons_zero, List.set_cons_succ, i64_w, i32_w]
         rfl
        refine pure_ (i := 13) (N := some 52) (v := ?_) (a' := ?_) #[true, true, true, true, true, false, true, true, true, true, false, true, true, true, false, false, false, false, false, false, false] rfl rfl (any_of HT_.out (by kernel_rfl)) (fun _ _ _ h => h) (Or.inl ⟨by rfl, ?_⟩) ?_ ?_
        rotate_left
        ·intro w'
         go_simp
         with_reducible rfl
        rotate_left
        ·simp only [Act.put, List.setIfInBounds_toArray, List.set_cons_zero, List.set_cons_succ, i64_w, i32_w]
         rfl
        refine pure_ (i := 14) (N := some 53) (v := ?_) (a' := ?_) #[true, true, true, true, true, false, true, true, true, true, false, true, true, true, true, false, false, false, false, false, false] rfl rfl (any_of HT_.out (by kernel_rfl)) (fun _ _ _ h => h) (Or.inl ⟨by rfl, ?_⟩) ?_ ?_
        rotate_left
        ·intro w'
         go_simp
         with_reducible rfl
        rotate_left
        ·simp only [Act.put, List.setIfInBounds_toArray, List.set_cons_zero, List.set_cons_succ, i64_w, i32_w]
         rfl
        refine take_ (i := 5) (N := some 44) (v := ?_) (a' := ?_) #[true, true, true, true, true, true, true, true, true, true, false, true, true, true, true, false, false, false, false, false, false] rfl rfl (take_ofW HT_.out HW_.out (by kernel_rfl)) (fun _ _ _ h => h) (Or.inl ⟨by rfl, ?_⟩) hHeld ?_ ?_
        rotate_left
        ·rintro w' ⟨s0, s1, s2, s3, s4, s5, s6, s7, s8⟩
         go_simp
         with_reducible rfl
        rotate_left
        ·simp only [Act.put, List.setIfInBounds_toArray, List.set_cons_zero, List.set_cons_succ, i64_w, i32_w]
         rfl
        refine take_ (i := 10) (N := some 49) (v := ?_) (a' := ?_) #[true, true, true, true, true, true, true, true, true, true, true, true, true, true, true, false, false, false, false, false, false] rfl rfl (take_ofW HT_.out HW_.out (by kernel_rfl)) (fun _ _ _ h => h) (Or.inl ⟨by rfl, ?_⟩) hHeld ?_ ?_
        rotate_left
        ·rintro w' ⟨s0, s1, s2, s3, s4, s5, s6, s7, s8⟩
         go_simp
         with_reducible rfl
        rotate_left
        ·simp only [Act.put, List.setIfInBounds_toArray, List.set_cons_zero, List.set_cons_succ, i64_w, i32_w]
         rfl
        refine take_ (i := 15) (N := some 54) (v := ?_) (a' := ?_) #[true, true, true, true, true, true, true, true, true, true, true, true, true, true, true, true, false, false, false, false, false] rfl rfl (take_ofW HT_.out HW_.out (by kernel_rfl)) (fun _ _ _ h => h) (Or.inl ⟨by rfl, ?_⟩) hHeld ?_ ?_
        rotate_left
        ·rintro w' ⟨s0, s1, s2, s3, s4, s5, s6, s7, s8⟩
         go_simp
         with_reducible rfl
        rotate_left
        ·simp only [Act.put, List.setIfInBounds_toArray, List.set_cons_zero, List.set_cons_succ, i64_w, i32_w]
         rfl
        refine pure_ (i := 16) (N := some 55) (v := ?_) (a' := ?_) #[true, true, true, true, true, true, true, true, true, true, true, true, true, true, true, true, true, false, false, false, false] rfl rfl (any_of HT_.out (by kernel_rfl)) (fun _ _ _ h => h) (Or.inl ⟨by rfl, ?_⟩) ?_ ?_
        rotate_left
        ·intro w'
         go_simp
         with_reducible rfl
        rotate_left
        ·simp only [Act.put, List.setIfInBounds_toArray, List.set_cons_zero, List.set_cons_succ, i64_w, i32_w]
         rfl
        refine pure_ (i := 17) (N := some 56) (v := ?_) (a' := ?_) #[true, true, true, true, true, true, true, true, true, true, true, true, true, true, true, true, true, true, false, false, false] rfl rfl (any_of HT_.out (by kernel_rfl)) (fun _ _ _ h => h) (Or.inl ⟨by rfl, ?_⟩) ?_ ?_
        rotate_left
        ·intro w'
         go_simp
         with_reducible rfl
        rotate_left
        ·simp only [Act.put, List.setIfInBounds_toArray, List.set_cons_zero, List.set_cons_succ, i64_w, i32_w]
         rfl
        refine last_ (i := 18) (N := some 57) #[true, true, true, true, true, true, true, true, true, true, true, true, true, true, true, true, true, true, true, false, false] rfl rfl (one_of HT_.out (by kernel_rfl)) (by decide) (fun K hK => ?_)
        refine value_ (w1 := ?_) (v := ?_) (by rfl) rfl ?_ ?_
        rotate_left 2
        ·go_simp
         constructor
         ·rfl
         ·rfl
        refine hK.out _ _ ?_
        clear hK K
        refine norm_ (a' := ?_) ?_ ?_
        rotate_left
        ·show Act.put _ (some 57) _ = _
         simp only [Act.put, List.setIfInBounds_toArray, List.set_cons_zero, List.set_cons_succ, i64_w, i32_w]
         rfl
        refine last_ (i := 19) (N := some 58) #[true, true, true, true, true, true, true, true, true, true, true, true, true, true, true, true, true, true, true, true, false] rfl rfl (one_of HT_.out (by kernel_rfl)) (by decide) (fun K hK => ?_)
        refine Kd.R_append_step k108 (w0 := w) w.heap.size (by rfl) (.tmp 39) (.tmp 57) 91 108 (.agg #[(.int .i64 0), (.int .i64 0), (.int .i64 0)]) 24 rfl Try.underlying91 info108 rfl (by decide) (by omega) u9 x9_1 (⟨(rd_T108 t546 x10_1).f1, (rd_T108 t546 x10_1).f0, wrap64 (-((rd_T108 t546 x10_1).f2))⟩ : S108) [.int .i64 ((rd_T108 t546 x10_1).f1), .int .i64 ((rd_T108 t546 x10_1).f0), .int .i64 (wrap64 (-((rd_T108 t546 x10_1).f2)))] (fun k_ => some k_ ≠ (.slice (some ad549) t546.length co14 : Value).ownBlock) (fun _ => False) rfl rfl ?aP (fun _ hk => hk.elim) ?aF ?aO ?aB ?aS ?aL ?_
        (case aP => exact k108_mkM _ _ _ (⟨(rd_T108 t546 x10_1).f1, (rd_T108 t546 x10_1).f0, wrap64 (-((rd_T108 t546 x10_1).f2))⟩ : S108))
        (case aB => exact (by repeat (first | (with_reducible first | exact HB.out | apply below_alloc | apply pw_below_drewN | apply below_drew1) | exact HB.out)))
        (case aF => exact (fun k_ hk => Kd.fresh' (Kd.R_lt (by (with_reducible repeat (first | apply Kd.R_alloc | apply Kd.R_drewN | apply Kd.R_drew)); exact HO_8.out)) k_ hk))
        (case aO => exact (by (with_reducible repeat (first | apply Kd.R_alloc | apply Kd.R_drewN | apply Kd.R_drew)); exact HO_9.out))
        (case aS => exact (below_size (by repeat (first | (with_reducible first | exact HB.out | apply below_alloc | apply pw_below_drewN | apply below_drew1) | exact HB.out))))
        (case aL => have := LMc13.out; omega)
        intro v553 w16 ho hb hg hat
        rw [← Ny552.out] at ho
        have n0_ := Aside0.mk (Kd.R_over' (by (with_reducible repeat (first | apply Kd.R_alloc | apply Kd.R_drewN | apply Kd.R_drew)); exact HO_6.out) (Kd.R_typed (by (with_reducible repeat (first | apply Kd.R_alloc | apply Kd.R_drewN | apply Kd.R_drew)); exact HO_9.out)) (by decide) hg)
        have n1_ := Aside0.mk (Kd.R_after (ok := (fun _ => True)) (by (with_reducible repeat (first | apply Kd.R_alloc | apply Kd.R_drewN | apply Kd.R_drew)); exact Kd.R_mono HO_8.out (fun _ hk => ⟨trivial, hk⟩)) hg hat)
        have n2_ := Aside0.mk (hb)
        have n3_ := Aside0.mk (ho)
        clear HO_6
        clear HO_8
        clear HB
        clear HO_9
        have HO_6 := n0_
        have HO_8 := n1_
        have HB := n2_
        have HO554 := n3_
        clear n0_ n1_ n2_ n3_
        clear ho hb hg hat
        refine hK.out _ _ ?_
        clear hK K
        refine norm_ (a' := ?_) ?_ ?_
        rotate_left
        ·show Act.put _ (some 58) _ = _
         simp only [Act.put, List.setIfInBounds_toArray, List.set_cons_zero, List.set_cons_succ, i64_w, i32_w]
         rfl
        refine pure_ (i := 20) (N := some 9) (v := ?_) (a' := ?_) #[true, true, true, true, true, true, true, true, true, true, true, true, true, true, true, true, true, true, true, true, true] rfl rfl (any_of HT_.out (by kernel_rfl)) (fun _ _ _ h => h) (Or.inl ⟨by rfl, ?_⟩) ?_ ?_
        rotate_left
        ·intro w'
         go_simp
         with_reducible rfl
        rotate_left
        ·simp only [Act.put, List.setIfInBounds_toArray, List.set_cons_zero, List.set_cons_succ, i64_w, i32_w]
         rfl
        refine done_ (done_of HT_.out (by kernel_rfl)) ?_
        try go_wp2
        go_roundg k1
        case measure => have := HK1.out; omega
        case rel => exact ⟨(y552), (wrap64 (x10_1 + 1)), (by first | rfl | (simp; done) | (simp [*]; done)), H', ⟨by have := HK1.out; omega⟩, ⟨by (with_reducible repeat (first | apply Kd.R_alloc | apply Kd.R_drewN | apply Kd.R_drew)); exact HO_6.out⟩, ⟨by (with_reducible repeat (first | apply Kd.R_alloc | apply Kd.R_drewN | apply Kd.R_drew)); exact Kd.R_mono HO_8.out (fun _ hk => hk.2)⟩, ⟨by (with_reducible repeat (first | apply Kd.R_alloc | apply Kd.R_drewN | apply Kd.R_drew)); exact HO554.out⟩, ⟨by repeat (first | (with_reducible first | exact HB.out | apply below_alloc | apply pw_below_drewN | apply below_drew1) | exact HB.out)⟩⟩
       ·rw [if_neg c13] at H
        exact absurd H (by simp)
      ·rw [if_neg c12] at H
       exact absurd H (by simp)
     ·rw [if_neg c11] at H
      have c11b0 : decide (x10_1 < (t546.length : Int)) = false := decide_eq_false c11
      clear c11
      by_cases c17 : 0 ≤ a0
      ·rw [if_pos c17] at H
       have c17b0 := eq_true c17
       have c17b1 : decide (0 ≤ a0) = true := decide_eq_true c17
       clear c17
       by_cases c18 : (a0 : Int).toNat ≤ 281474976710656
       ·rw [if_pos c18] at H
        have c18b0 := eq_true c18
        have c18b1 : decide ((a0 : Int).toNat ≤ 281474976710656) = true := decide_eq_true c18
        clear c18
        obtain ⟨y555, hy555⟩ : ∃ y_ : List Bool, y_ = (List.replicate (a0 : Int).toNat false) := ⟨_, rfl⟩
        replace H : (tenetref02_Classes.l1 k1 a0 t542 t546 x9_1 y555 ([] : List (List Int)) 0) = some (r1, r2) := by first | (rw [hy555]; with_reducible exact H) | (have H2_ := (Option.bind_some _ _).symm.trans H; rw [hy555]; with_reducible exact H2_) | (have H2_ := (Option.bind_some _ _).symm.trans H; with_reducible exact H2_) | with_reducible exact H | (rw [hy555]; exact H) | exact H
        have Ny555 := Aside0.mk hy555
        clear hy555
        have H' := Aside0.mk H
        clear H
        obtain ⟨Ao19, co19, eo19⟩ := Kd.R_slice HO_8.out
        subst eo19
        go_wp2_with (first | ((with_reducible refine gate_dst (N := 60) rfl ?_); refine Kd.R_make Kd.bool _ 4 rfl (N := 60) rfl 81 _ _ rfl a0 rfl rfl Try.underlying81 (.bool false) 1 info4 rfl (by decide) (by omega) false (ok := fun _ => True) (okp := fun _ => True) rfl (fun _ hk => hk) trivial (of_decide_eq_true (by first | (with_reducible assumption) | assumption)) (Nat.le_trans (Nat.mul_le_mul_right _ (of_decide_eq_true (by first | (with_reducible assumption) | assumption) : a0.toNat ≤ 281474976710656)) (by omega)) (Below.refl _ _) (Nat.le_refl _) ?_; intro v556 w20 ho21 hb hg_ hnew_; clear hg_ hnew_; (first | rw [← Ny555.out] at ho21 | (simp only [Int.reduceToNat] at ho21; rw [← Ny555.out] at ho21)); have n0_ := Aside0.mk (Kd.R_below (by (with_reducible repeat (first | apply Kd.R_alloc | apply Kd.R_drewN | apply Kd.R_drew)); exact HO_6.out) hb); have n1_ := Aside0.mk (Kd.R_below (by (with_reducible repeat (first | apply Kd.R_alloc | apply Kd.R_drewN | apply Kd.R_drew)); exact HO_8.out) hb); have n2_ := Aside0.mk (Kd.R_below (by (with_reducible repeat (first | apply Kd.R_alloc | apply Kd.R_drewN | apply Kd.R_drew)); exact HO_9.out) hb); have n3_ := Aside0.mk (Kd.R_lower ho21 (below_size (by repeat (first | (with_reducible first | exact HB.out | apply below_alloc | apply pw_below_drewN | apply below_drew1) | exact HB.out)))); have n4_ := Aside0.mk (below_step (by repeat (first | (with_reducible first | exact HB.out | apply below_alloc | apply pw_below_drewN | apply below_drew1) | exact HB.out)) hb); clear HO_6; clear HO_8; clear HO_9; clear HB; have HO_6 := n0_; have HO_8 := n1_; have HO_9 := n2_; have HO557 := n3_; have HB := n4_; clear n0_ n1_ n2_ n3_ n4_; clear hb ho21))
        go_loopg [12, 13] k1 (fun kq v12 v13 w' => ∃ (x11_2 : List Bool) (x12_2 : List (List Int)) (x13_2 : Int), v13 = .int .i64 x13_2 ∧ Aside0 (tenetref02_Classes.l1 kq a0 t542 t546 x9_1 x11_2 x12_2 x13_2 = some (r1, r2)) ∧ Aside0 (kq ≤ k1) ∧ Aside0 (Kd.R (Kd.int .i64) 3 w' w.heap.size (fun _ => True) v544 t542) ∧ Aside0 (Kd.R k108 108 w' w.heap.size (fun k_ => some k_ ≠ (u9 : Value).ownBlock) (.slice Ao19 t546.length co19) t546) ∧ Aside0 (Kd.R k108 108 w' w.heap.size (fun k_ => some k_ ≠ ((.slice Ao19 t546.length co19) : Value).ownBlock) u9 x9_1) ∧ Aside0 (Kd.R Kd.bool 4 w' w.heap.size (fun _ => True) v556 x11_2) ∧ Aside0 (Kd.S (Kd.slice 3 (Kd.int .i64)) 25 w' w.heap.size (fun k_ => some k_ ≠ (v544 : Value).ownBlock) v12 x12_2) ∧ Aside0 (Below w.heap.size w w'))
        case atStart => exact ⟨(y555), (([] : List (List Int))), (0), (by first | rfl | (simp; done) | (simp [*]; done)), H', ⟨Nat.le_refl _⟩, ⟨by (with_reducible repeat (first | apply Kd.R_alloc | apply Kd.R_drewN | apply Kd.R_drew)); exact HO_6.out⟩, ⟨by (with_reducible repeat (first | apply Kd.R_alloc | apply Kd.R_drewN | apply Kd.R_drew)); exact HO_8.out⟩, ⟨by (with_reducible repeat (first | apply Kd.R_alloc | apply Kd.R_drewN | apply Kd.R_drew)); exact HO_9.out⟩, ⟨by (with_reducible repeat (first | apply Kd.R_alloc | apply Kd.R_drewN | apply Kd.R_drew)); exact HO557.out⟩, ⟨by first | exact Kd.S_nil _ _ _ _ _ | exact Kd.N_nil _ _ _ _ _ | exact Kd.V_nil _ _ _ _ _ | exact Kd.Q_nil _ _ _ _ _ | exact Kd.R_nil _ _ _ _ _⟩, ⟨by repeat (first | (with_reducible first | exact HB.out | apply below_alloc | apply pw_below_drewN | apply below_drew1) | exact HB.out)⟩⟩
        case round =>
         clear H'
         try clear c1
         try clear c2
         try clear p2
         try clear c3
         try clear c4
         try clear c5
         try clear p5
         try clear q5
         try clear hx5
         try clear c6
         try clear p6
         try clear c11
         try clear c11b0
         try clear c12
         try clear c12b0
         try clear c13
         try clear c17
         try clear c17b0
         try clear c17b1
         try clear c18
         try clear c18b0
         try clear c18b1
         try clear hx549_0
         try clear hx549_1
         try clear hx549_2
         try clear hx550_0
         try clear hx550_1
         try clear hx550_2
         try clear hx551_0
         try clear hx551_1
         try clear hx551_2
         try clear p2
         try clear p549
         try clear p550
         try clear p551
         try clear q549
         try clear q550
         try clear q551
         obtain ⟨x11_2, x12_2, x13_2, rfl, HA, HK2, HO_6, HO_8, HO_9, HO_11, HO_12, HB⟩ := hrel
         cases gk with
         | zero => exact absurd HA.out (by simp [tenetref02_Classes.l1])
         | succ k2 =>
          have H := HA.out
          clear HA
          simp only [tenetref02_Classes.l1] at H
          by_cases c22 : x13_2 < a0
          ·rw [if_pos c22] at H
           have c22b0 : decide (x13_2 < a0) = true := decide_eq_true c22
           clear c22
           by_cases c23 : 0 ≤ x13_2
           ·rw [if_pos c23] at H
            have c23b0 : decide (0 ≤ x13_2) = true := decide_eq_true c23
            clear c23
            by_cases c24 : x13_2 < (x11_2.length : Int)
            ·rw [if_pos c24] at H
             have c24b0 : decide (x13_2 < (x11_2.length : Int)) = true := decide_eq_true c24
             clear c24
             obtain ⟨bq25, hbq25⟩ : ∃ b_ : Bool, b_ = (rdOf false x11_2 x13_2) := ⟨_, rfl⟩
             replace H : (if bq25 = true then (tenetref02_Classes.l1 k2 a0 t542 t546 x9_1 x11_2 x12_2 (wrap64 (x13_2 + 1))) else ((tenetref02_reached.f k2 a0 t546 t542 x13_2).bind fun t559 => ((tenetref02_reached.f k2 a0 x9_1 t542 x13_2).bind fun t562 => (tenetref02_Classes.l2 k2 a0 t542 t546 x9_1 x11_2 x12_2 x13_2 t559 t562 ([] : List Int) x13_2)))) = some (r1, r2) := by rw [← hbq25] at H; exact H
             have Nbq25 := Aside0.mk hbq25
             clear hbq25
             by_cases c26 : bq25 = true
             ·subst c26
              have H1 : (tenetref02_Classes.l1 k2 a0 t542 t546 x9_1 x11_2 x12_2 (wrap64 (x13_2 + 1))) = some (r1, r2) := by rw [if_pos rfl] at H; exact H
              clear H
              have H := H1
              clear H1
              have H' := Aside0.mk H
              clear H
              obtain ⟨Ao27, co27, eo27⟩ := Kd.R_slice HO_11.out
              subst eo27
              have p558 : 0 ≤ (x13_2 : Int) := of_decide_eq_true (by first | (with_reducible assumption) | assumption)
              have q558 : x13_2 < (x11_2.length : Int) := of_decide_eq_true (by first | (with_reducible assumption) | assumption)
              obtain ⟨ad558, e558, hx558_0⟩ := Kd.at_bool (Kd.R_reads' HO_11.out).2.2 x13_2 p558 q558
              (try rw [← Nbq25.out] at hx558_0)
              cases e558
              replace p558 := eq_true p558
              replace q558 := eq_true q558
              go_wp2
              go_roundg k2
              case measure => have := HK1.out; have := HK2.out; omega
              case rel => exact ⟨(x11_2), (x12_2), (wrap64 (x13_2 + 1)), (by first | rfl | (simp; done) | (simp [*]; done)), H', ⟨by have := HK1.out; have := HK2.out; omega⟩, ⟨by (with_reducible repeat (first | apply Kd.R_alloc | apply Kd.R_drewN | apply Kd.R_drew)); exact HO_6.out⟩, ⟨by (with_reducible repeat (first | apply Kd.R_alloc | apply Kd.R_drewN | apply Kd.R_drew)); exact HO_8.out⟩, ⟨by (with_reducible repeat (first | apply Kd.R_alloc | apply Kd.R_drewN | apply Kd.R_drew)); exact HO_9.out⟩, ⟨by (with_reducible repeat (first | apply Kd.R_alloc | apply Kd.R_drewN | apply Kd.R_drew)); exact HO_11.out⟩, ⟨by (with_reducible repeat (first | apply Kd.S_alloc | apply Kd.S_drewN | apply Kd.S_drew)); exact HO_12.out⟩, ⟨by repeat (first | (with_reducible first | exact HB.out | apply below_alloc | apply pw_below_drewN | apply below_drew1) | exact HB.out)⟩⟩
             ·replace c26 := Bool.eq_false_iff.mpr c26
              subst c26
              have H1 : ((tenetref02_reached.f k2 a0 t546 t542 x13_2).bind fun t559 => ((tenetref02_reached.f k2 a0 x9_1 t542 x13_2).bind fun t562 => (tenetref02_Classes.l2 k2 a0 t542 t546 x9_1 x11_2 x12_2 x13_2 t559 t562 ([] : List Int) x13_2))) = some (r1, r2) := by rw [if_neg (show ¬ (false = true) by decide)] at H; exact H
              clear H
              have H := H1
              clear H1
              replace H := Option.bind_eq_some_iff.mp H
              obtain ⟨t559, A280, H⟩ := H
              replace H : ((tenetref02_reached.f k2 a0 x9_1 t542 x13_2).bind fun t562 => (tenetref02_Classes.l2 k2 a0 t542 t546 x9_1 x11_2 x12_2 x13_2 t559 t562 ([] : List Int) x13_2)) = some (r1, r2) := H
              have A28 := Aside0.mk A280
              clear A280
              replace H := Option.bind_eq_some_iff.mp H
              obtain ⟨t562, A290, H⟩ := H
              replace H : (tenetref02_Classes.l2 k2 a0 t542 t546 x9_1 x11_2 x12_2 x13_2 t559 t562 ([] : List Int) x13_2) = some (r1, r2) := H
              have A29 := Aside0.mk A290
              clear A290
              have H' := Aside0.mk H
              clear H
              obtain ⟨Ao30, co30, eo30⟩ := Kd.R_slice HO_11.out
              subst eo30
              have p558 : 0 ≤ (x13_2 : Int) := of_decide_eq_true (by first | (with_reducible assumption) | assumption)
              have q558 : x13_2 < (x11_2.length : Int) := of_decide_eq_true (by first | (with_reducible assumption) | assumption)
              obtain ⟨ad558, e558, hx558_0⟩ := Kd.at_bool (Kd.R_reads' HO_11.out).2.2 x13_2 p558 q558
              (try rw [← Nbq25.out] at hx558_0)
              cases e558
              replace p558 := eq_true p558
              replace q558 := eq_true q558
              obtain ⟨Ao31, co31, eo31⟩ := Kd.R_slice HO_6.out
              subst eo31
              go_wp2_with (first | ((with_reducible refine gate_callee (f := 73) rfl ?_); refine goesL_ (some 74) rfl rfl Try.func73 (by kernel_rfl) rfl #[.int .i64 a0, .slice Ao19 t546.length co19, .slice Ao31 t542.length co31, .int .i64 x13_2] rfl (by (try simp only [List.map_toArray, List.map_cons, List.map_nil]); first | done | rfl | (simp only [List.length_drop, List.length_take]; rfl)) ?_; (with_reducible refine (tenetref02_reached.calls k2 a0 _ _ t546 _ _ t542 x13_2 t559 _ ?side1 ?side2 ?side3 ?side4 A28.out).mono ?_); (case side1 => repeat (first | exact (Kd.R_reads' HO_8.out).2.2 | (with_reducible refine Kd.C_alloc ?_ _) | (with_reducible refine Kd.C_drewN ?_ _) | (with_reducible refine Kd.C_drew ?_))); (case side2 => exact (Kd.R_reads' HO_8.out).2.1); (case side3 => repeat (first | exact (Kd.R_reads' HO_6.out).2.2 | (with_reducible refine Kd.C_alloc ?_ _) | (with_reducible refine Kd.C_drewN ?_ _) | (with_reducible refine Kd.C_drew ?_))); (case side4 => exact (Kd.R_reads' HO_6.out).2.1); rintro e w32 ⟨v560, rfl, ho0, hb⟩; refine ⟨_, rfl, ?_⟩; have n0_ := Aside0.mk (Kd.R_below (by (with_reducible repeat (first | apply Kd.R_alloc | apply Kd.R_drewN | apply Kd.R_drew)); exact HO_6.out) hb); have n1_ := Aside0.mk (Kd.R_below (by (with_reducible repeat (first | apply Kd.R_alloc | apply Kd.R_drewN | apply Kd.R_drew)); exact HO_8.out) hb); have n2_ := Aside0.mk (Kd.R_below (by (with_reducible repeat (first | apply Kd.R_alloc | apply Kd.R_drewN | apply Kd.R_drew)); exact HO_9.out) hb); have n3_ := Aside0.mk (Kd.R_elder' (by (with_reducible repeat (first | apply Kd.R_alloc | apply Kd.R_drewN | apply Kd.R_drew)); exact HO_11.out) (Kd.R_base ho0) hb); have n4_ := Aside0.mk (Kd.S_below (by (with_reducible repeat (first | apply Kd.S_alloc | apply Kd.S_drewN | apply Kd.S_drew)); exact HO_12.out) hb); have n5_ := Aside0.mk (Kd.R_lower (Kd.R_new' ho0 (Kd.R_lt (by (with_reducible repeat (first | apply Kd.R_alloc | apply Kd.R_drewN | apply Kd.R_drew)); exact HO_11.out))) (below_size (by repeat (first | (with_reducible first | exact HB.out | apply below_alloc | apply pw_below_drewN | apply below_drew1) | exact HB.out)))); have n6_ := Aside0.mk (below_step (by repeat (first | (with_reducible first | exact HB.out | apply below_alloc | apply pw_below_drewN | apply below_drew1) | exact HB.out)) hb); clear HO_6; clear HO_8; clear HO_9; clear HO_11; clear HO_12; clear HB; have HO_6 := n0_; have HO_8 := n1_; have HO_9 := n2_; have HO_11 := n3_; have HO_12 := n4_; have HO561 := n5_; have HB := n6_; clear n0_ n1_ n2_ n3_ n4_ n5_ n6_; (try clear hb); (try clear hb2); (try clear hk); (try clear hi); (try clear ho0); obtain ⟨Ao33, co33, eo33⟩ := Kd.R_slice HO_9.out; subst eo33) | ((with_reducible refine gate_callee (f := 73) rfl ?_); refine goesL_ (some 79) rfl rfl Try.func73 (by kernel_rfl) rfl #[.int .i64 a0, .slice Ao33 x9_1.length co33, .slice Ao31 t542.length co31, .int .i64 x13_2] rfl (by (try simp only [List.map_toArray, List.map_cons, List.map_nil]); first | done | rfl | (simp only [List.length_drop, List.length_take]; rfl)) ?_; (with_reducible refine (tenetref02_reached.calls k2 a0 _ _ x9_1 _ _ t542 x13_2 t562 _ ?side1 ?side2 ?side3 ?side4 A29.out).mono ?_); (case side1 => repeat (first | exact (Kd.R_reads' HO_9.out).2.2 | (with_reducible refine Kd.C_alloc ?_ _) | (with_reducible refine Kd.C_drewN ?_ _) | (with_reducible refine Kd.C_drew ?_))); (case side2 => exact (Kd.R_reads' HO_9.out).2.1); (case side3 => repeat (first | exact (Kd.R_reads' HO_6.out).2.2 | (with_reducible refine Kd.C_alloc ?_ _) | (with_reducible refine Kd.C_drewN ?_ _) | (with_reducible refine Kd.C_drew ?_))); (case side4 => exact (Kd.R_reads' HO_6.out).2.1); rintro e w34 ⟨v563, rfl, ho0, hb⟩; refine ⟨_, rfl, ?_⟩; have n0_ := Aside0.mk (Kd.R_below (by (with_reducible repeat (first | apply Kd.R_alloc | apply Kd.R_drewN | apply Kd.R_drew)); exact HO_6.out) hb); have n1_ := Aside0.mk (Kd.R_below (by (with_reducible repeat (first | apply Kd.R_alloc | apply Kd.R_drewN | apply Kd.R_drew)); exact HO_8.out) hb); have n2_ := Aside0.mk (Kd.R_below (by (with_reducible repeat (first | apply Kd.R_alloc | apply Kd.R_drewN | apply Kd.R_drew)); exact HO_9.out) hb); have n3_ := Aside0.mk (Kd.R_elder' (by (with_reducible repeat (first | apply Kd.R_alloc | apply Kd.R_drewN | apply Kd.R_drew)); exact HO_11.out) (Kd.R_base ho0) hb); have n4_ := Aside0.mk (Kd.S_below (by (with_reducible repeat (first | apply Kd.S_alloc | apply Kd.S_drewN | apply Kd.S_drew)); exact HO_12.out) hb); have n5_ := Aside0.mk (Kd.R_elder' (by (with_reducible repeat (first | apply Kd.R_alloc | apply Kd.R_drewN | apply Kd.R_drew)); exact HO561.out) (Kd.R_base ho0) hb); have n6_ := Aside0.mk (Kd.R_lower (Kd.R_new' (Kd.R_new' ho0 (Kd.R_lt (by (with_reducible repeat (first | apply Kd.R_alloc | apply Kd.R_drewN | apply Kd.R_drew)); exact HO_11.out))) (Kd.R_lt (by (with_reducible repeat (first | apply Kd.R_alloc | apply Kd.R_drewN | apply Kd.R_drew)); exact HO561.out))) (below_size (by repeat (first | (with_reducible first | exact HB.out | apply below_alloc | apply pw_below_drewN | apply below_drew1) | exact HB.out)))); have n7_ := Aside0.mk (below_step (by repeat (first | (with_reducible first | exact HB.out | apply below_alloc | apply pw_below_drewN | apply below_drew1) | exact HB.out)) hb); clear HO_6; clear HO_8; clear HO_9; clear HO_11; clear HO_12; clear HO561; clear HB; have HO_6 := n0_; have HO_8 := n1_; have HO_9 := n2_; have HO_11 := n3_; have HO_12 := n4_; have HO561 := n5_; have HO564 := n6_; have HB := n7_; clear n0_ n1_ n2_ n3_ n4_ n5_ n6_ n7_; (try clear hb); (try clear hb2); (try clear hk); (try clear hi); (try clear ho0)))
              go_loopg [16, 17] k2 (fun kq v16 v17 w' => ∃ (x11_3 : List Bool) (x16_3 : List Int) (x17_3 : Int), v17 = .int .i64 x17_3 ∧ Aside0 (tenetref02_Classes.l2 kq a0 t542 t546 x9_1 x11_3 x12_2 x13_2 t559 t562 x16_3 x17_3 = some (r1, r2)) ∧ Aside0 (kq ≤ k2) ∧ Aside0 (Kd.R (Kd.int .i64) 3 w' w.heap.size (fun k_ => some k_ ≠ (v16 : Value).ownBlock) (.slice Ao31 t542.length co31) t542) ∧ Aside0 (Kd.R k108 108 w' w.heap.size (fun k_ => some k_ ≠ ((.slice Ao33 x9_1.length co33) : Value).ownBlock) (.slice Ao19 t546.length co19) t546) ∧ Aside0 (Kd.R k108 108 w' w.heap.size (fun k_ => some k_ ≠ ((.slice Ao19 t546.length co19) : Value).ownBlock) (.slice Ao33 x9_1.length co33) x9_1) ∧ Aside0 (Kd.R Kd.bool 4 w' w.heap.size (fun k_ => some k_ ≠ (v560 : Value).ownBlock ∧ some k_ ≠ (v563 : Value).ownBlock) (.slice (some ad558) x11_2.length co30) x11_3) ∧ Aside0 (Kd.S (Kd.slice 3 (Kd.int .i64)) 25 w' w.heap.size (fun k_ => some k_ ≠ ((.slice Ao31 t542.length co31) : Value).ownBlock ∧ some k_ ≠ (v16 : Value).ownBlock) u12 x12_2) ∧ Aside0 (Kd.R Kd.bool 4 w' w.heap.size (fun k_ => some k_ ≠ ((.slice (some ad558) x11_2.length co30) : Value).ownBlock ∧ some k_ ≠ (v563 : Value).ownBlock) v560 t559) ∧ Aside0 (Kd.R Kd.bool 4 w' w.heap.size (fun k_ => some k_ ≠ ((.slice (some ad558) x11_2.length co30) : Value).ownBlock ∧ some k_ ≠ (v560 : Value).ownBlock) v563 t562) ∧ Aside0 (Kd.R (Kd.int .i64) 3 w' w.heap.size (fun k_ => some k_ ≠ ((.slice Ao31 t542.length co31) : Value).ownBlock) v16 x16_3) ∧ Aside0 (Below w.heap.size w w'))
              case atStart => exact ⟨(x11_2), (([] : List Int)), (x13_2), (by first | rfl | (simp; done) | (simp [*]; done)), H', ⟨Nat.le_refl _⟩, ⟨by (with_reducible repeat (first | apply Kd.R_alloc | apply Kd.R_drewN | apply Kd.R_drew)); exact Kd.R_mono HO_6.out (fun _ hk => (by simp [Value.ownBlock]))⟩, ⟨by (with_reducible repeat (first | apply Kd.R_alloc | apply Kd.R_drewN | apply Kd.R_drew)); exact HO_8.out⟩, ⟨by (with_reducible repeat (first | apply Kd.R_alloc | apply Kd.R_drewN | apply Kd.R_drew)); exact HO_9.out⟩, ⟨by (with_reducible repeat (first | apply Kd.R_alloc | apply Kd.R_drewN | apply Kd.R_drew)); exact Kd.R_mono HO_11.out (fun _ hk => ⟨hk.1.2, hk.2⟩)⟩, ⟨by (with_reducible repeat (first | apply Kd.S_alloc | apply Kd.S_drewN | apply Kd.S_drew)); exact Kd.S_mono HO_12.out (fun _ hk => ⟨hk, (by simp [Value.ownBlock])⟩)⟩, ⟨by (with_reducible repeat (first | apply Kd.R_alloc | apply Kd.R_drewN | apply Kd.R_drew)); exact Kd.R_mono HO561.out (fun _ hk => ⟨hk.1.2, hk.2⟩)⟩, ⟨by (with_reducible repeat (first | apply Kd.R_alloc | apply Kd.R_drewN | apply Kd.R_drew)); exact Kd.R_mono HO564.out (fun _ hk => ⟨hk.1.2, hk.2⟩)⟩, ⟨by first | exact Kd.R_nil _ _ _ _ _ | exact Kd.N_nil _ _ _ _ _ | exact Kd.V_nil _ _ _ _ _ | exact Kd.Q_nil _ _ _ _ _ | exact Kd.S_nil _ _ _ _ _⟩, ⟨by repeat (first | (with_reducible first | exact HB.out | apply below_alloc | apply pw_below_drewN | apply below_drew1) | exact HB.out)⟩⟩
              case round =>
               clear H'
               try clear c1
               try clear c2
               try clear p2
               try clear q2
               try clear c3
               try clear c4
               try clear c5
               try clear p5
               try clear q5
               try clear hx5
               try clear c6
               try clear p6
               try clear c7
               try clear c11
               try clear c11b0
               try clear c12
               try clear c12b0
               try clear c13
               try clear c17
               try clear c17b0
               try clear c17b1
               try clear c18
               try clear c18b0
               try clear c18b1
               try clear c22
               try clear c22b0
               try clear c23
               try clear c23b0
               try clear c24
               try clear c24b0
               try clear c25
               try clear q25
               try clear c26
               try clear hx549_0
               try clear hx549_1
               try clear hx549_2
               try clear hx550_0
               try clear hx550_1
               try clear hx550_2
               try clear hx551_0
               try clear hx551_1
               try clear hx551_2
               try clear hx558_0
               try clear p2
               try clear p5
               try clear p549
               try clear p550
               try clear p551
               try clear p558
               try clear p6
               try clear q5
               try clear q549
               try clear q550
               try clear q551
               try clear q558
               obtain ⟨x11_3, x16_3, x17_3, rfl, HA, HK3, HO_6, HO_8, HO_9, HO_11, HO_12, HO_14, HO_15, HO_16, HB⟩ := hrel
               have hl11_3 := (Kd.R_reads' HO_11.out).1
               rw [hl11_3] at HO_11
               (try simp only [hl11_3])
               (try simp only [hl11_3] at HO_6)
               (try simp only [hl11_3] at HO_8)
               (try simp only [hl11_3] at HO_9)
               (try simp only [hl11_3] at HO_12)
               (try simp only [hl11_3] at HO_14)
               (try simp only [hl11_3] at HO_15)
               (try simp only [hl11_3] at HO_16)
               cases gk with
               | zero => exact absurd HA.out (by simp [tenetref02_Classes.l2])
               | succ k3 =>
                have H := HA.out
                clear HA
                simp only [tenetref02_Classes.l2] at H
                by_cases c35 : x17_3 < a0
                ·rw [if_pos c35] at H
                 have c35b0 : decide (x17_3 < a0) = true := decide_eq_true c35
                 clear c35
                 by_cases c36 : 0 ≤ x17_3
                 ·rw [if_pos c36] at H
                  have c36b0 : decide (0 ≤ x17_3) = true := decide_eq_true c36
                  clear c36
                  by_cases c37 : x17_3 < (t559.length : Int)
                  ·rw [if_pos c37] at H
                   have c37b0 : decide (x17_3 < (t559.length : Int)) = true := decide_eq_true c37
                   clear c37
                   obtain ⟨bq38, hbq38⟩ : ∃ b_ : Bool, b_ = (rdOf false t559 x17_3) := ⟨_, rfl⟩
                   replace H : (if bq38 = true then (if x17_3 < (t562.length : Int) then (if rdOf false t562 x17_3 = true then (if x17_3 < (t542.length : Int) then (if 0 ≤ x13_2 then (if x13_2 < (t542.length : Int) then (if (rd t542 x17_3) = (rd t542 x13_2) then (if x17_3 < (x11_3.length : Int) then (if rdOf false x11_3 x17_3 = true then (tenetref02_Classes.l2 k3 a0 t542 t546 x9_1 x11_3 x12_2 x13_2 t559 t562 x16_3 (wrap64 (x17_3 + 1))) else (if x16_3.length < 17592186044416 then (tenetref02_Classes.l2 k3 a0 t542 t546 x9_1 (x11_3.set (x17_3 : Int).toNat true) x12_2 x13_2 t559 t562 (x16_3 ++ [x17_3]) (wrap64 (x17_3 + 1))) else (none))) else (none)) else (tenetref02_Classes.l2 k3 a0 t542 t546 x9_1 x11_3 x12_2 x13_2 t559 t562 x16_3 (wrap64 (x17_3 + 1)))) else (none)) else (none)) else (none)) else (tenetref02_Classes.l2 k3 a0 t542 t546 x9_1 x11_3 x12_2 x13_2 t559 t562 x16_3 (wrap64 (x17_3 + 1)))) else (none)) else (tenetref02_Classes.l2 k3 a0 t542 t546 x9_1 x11_3 x12_2 x13_2 t559 t562 x16_3 (wrap64 (x17_3 + 1)))) = some (r1, r2) := by rw [← hbq38] at H; exact H
                   have Nbq38 := Aside0.mk hbq38
                   clear hbq38
                   by_cases c39 : bq38 = true
                   ·subst c39
                    have H1 : (if x17_3 < (t562.length : Int) then (if rdOf false t562 x17_3 = true then (if x17_3 < (t542.length : Int) then (if 0 ≤ x13_2 then (if x13_2 < (t542.length : Int) then (if (rd t542 x17_3) = (rd t542 x13_2) then (if x17_3 < (x11_3.length : Int) then (if rdOf false x11_3 x17_3 = true then (tenetref02_Classes.l2 k3 a0 t542 t546 x9_1 x11_3 x12_2 x13_2 t559 t562 x16_3 (wrap64 (x17_3 + 1))) else (if x16_3.length < 17592186044416 then (tenetref02_Classes.l2 k3 a0 t542 t546 x9_1 (x11_3.set (x17_3 : Int).toNat true) x12_2 x13_2 t559 t562 (x16_3 ++ [x17_3]) (wrap64 (x17_3 + 1))) else (none))) else (none)) else (tenetref02_Classes.l2 k3 a0 t542 t546 x9_1 x11_3 x12_2 x13_2 t559 t562 x16_3 (wrap64 (x17_3 + 1)))) else (none)) else (none)) else (none)) else (tenetref02_Classes.l2 k3 a0 t542 t546 x9_1 x11_3 x12_2 x13_2 t559 t562 x16_3 (wrap64 (x17_3 + 1)))) else (none)) = some (r1, r2) := by rw [if_pos rfl] at H; exact H
                    clear H
                    have H := H1
                    clear H1
                    by_cases c40 : x17_3 < (t562.length : Int)
                    ·rw [if_pos c40] at H
                     have c40b0 : decide (x17_3 < (t562.length : Int)) = true := decide_eq_true c40
                     clear c40
                     obtain ⟨bq41, hbq41⟩ : ∃ b_ : Bool, b_ = (rdOf false t562 x17_3) := ⟨_, rfl⟩
                     replace H : (if bq41 = true then (if x17_3 < (t542.length : Int) then (if 0 ≤ x13_2 then (if x13_2 < (t542.length : Int) then (if (rd t542 x17_3) = (rd t542 x13_2) then (if x17_3 < (x11_3.length : Int) then (if rdOf false x11_3 x17_3 = true then (tenetref02_Classes.l2 k3 a0 t542 t546 x9_1 x11_3 x12_2 x13_2 t559 t562 x16_3 (wrap64 (x17_3 + 1))) else (if x16_3.length < 17592186044416 then (tenetref02_Classes.l2 k3 a0 t542 t546 x9_1 (x11_3.set (x17_3 : Int).toNat true) x12_2 x13_2 t559 t562 (x16_3 ++ [x17_3]) (wrap64 (x17_3 + 1))) else (none))) else (none)) else (tenetref02_Classes.l2 k3 a0 t542 t546 x9_1 x11_3 x12_2 x13_2 t559 t562 x16_3 (wrap64 (x17_3 + 1)))) else (none)) else (none)) else (none)) else (tenetref02_Classes.l2 k3 a0 t542 t546 x9_1 x11_3 x12_2 x13_2 t559 t562 x16_3 (wrap64 (x17_3 + 1)))) = some (r1, r2) := by rw [← hbq41] at H; exact H
                     have Nbq41 := Aside0.mk hbq41
                     clear hbq41
                     by_cases c42 : bq41 = true
                     ·subst c42
                      have H1 : (if x17_3 < (t542.length : Int) then (if 0 ≤ x13_2 then (if x13_2 < (t542.length : Int) then (if (rd t542 x17_3) = (rd t542 x13_2) then (if x17_3 < (x11_3.length : Int) then (if rdOf false x11_3 x17_3 = true then (tenetref02_Classes.l2 k3 a0 t542 t546 x9_1 x11_3 x12_2 x13_2 t559 t562 x16_3 (wrap64 (x17_3 + 1))) else (if x16_3.length < 17592186044416 then (tenetref02_Classes.l2 k3 a0 t542 t546 x9_1 (x11_3.set (x17_3 : Int).toNat true) x12_2 x13_2 t559 t562 (x16_3 ++ [x17_3]) (wrap64 (x17_3 + 1))) else (none))) else (none)) else (tenetref02_Classes.l2 k3 a0 t542 t546 x9_1 x11_3 x12_2 x13_2 t559 t562 x16_3 (wrap64 (x17_3 + 1)))) else (none)) else (none)) else (none)) = some (r1, r2) := by rw [if_pos rfl] at H; exact H
                      clear H
                      have H := H1
                      clear H1
                      by_cases c43 : x17_3 < (t542.length : Int)
                      ·rw [if_pos c43] at H
                       have c43b0 : decide (x17_3 < (t542.length : Int)) = true := decide_eq_true c43
                       clear c43
                       by_cases c44 : 0 ≤ x13_2
                       ·rw [if_pos c44] at H
                        have c44b0 : decide (0 ≤ x13_2) = true := decide_eq_true c44
                        clear c44
                        by_cases c45 : x13_2 < (t542.length : Int)
                        ·rw [if_pos c45] at H
                         have c45b0 : decide (x13_2 < (t542.length : Int)) = true := decide_eq_true c45
                         clear c45
                         by_cases c46 : (rd t542 x17_3) = (rd t542 x13_2)
                         ·rw [if_pos c46] at H
                          have c46b0 : ((rd t542 x17_3) == (rd t542 x13_2)) = true := beq_iff_eq.mpr c46
                          have c46b1 : ((rd t542 x17_3) != (rd t542 x13_2)) = false := bne_eq_false_iff_eq.mpr c46
                          clear c46
                          by_cases c47 : x17_3 < (x11_3.length : Int)
                          ·rw [if_pos c47] at H
                           have c47b0 : decide (x17_3 < (x11_3.length : Int)) = true := decide_eq_true c47
                           clear c47
                           obtain ⟨bq48, hbq48⟩ : ∃ b_ : Bool, b_ = (rdOf false x11_3 x17_3) := ⟨_, rfl⟩
                           replace H : (if bq48 = true then (tenetref02_Classes.l2 k3 a0 t542 t546 x9_1 x11_3 x12_2 x13_2 t559 t562 x16_3 (wrap64 (x17_3 + 1))) else (if x16_3.length < 17592186044416 then (tenetref02_Classes.l2 k3 a0 t542 t546 x9_1 (x11_3.set (x17_3 : Int).toNat true) x12_2 x13_2 t559 t562 (x16_3 ++ [x17_3]) (wrap64 (x17_3 + 1))) else (none))) = some (r1, r2) := by rw [← hbq48] at H; exact H
                           have Nbq48 := Aside0.mk hbq48
                           clear hbq48
                           by_cases c49 : bq48 = true
                           ·subst c49
                            have H1 : (tenetref02_Classes.l2 k3 a0 t542 t546 x9_1 x11_3 x12_2 x13_2 t559 t562 x16_3 (wrap64 (x17_3 + 1))) = some (r1, r2) := by rw [if_pos rfl] at H; exact H
                            clear H
                            have H := H1
                            clear H1
                            have H' := Aside0.mk H
                            clear H
                            try go_wp2
                            have n0_ := Aside0.mk (HO_6.out)
                            have n1_ := Aside0.mk (HO_8.out)
                            have n2_ := Aside0.mk (HO_9.out)
                            have n3_ := Aside0.mk (HO_11.out)
                            have n4_ := Aside0.mk (HO_12.out)
                            have n5_ := Aside0.mk (HO_14.out)
                            have n6_ := Aside0.mk (HO_15.out)
                            have n7_ := Aside0.mk (HO_16.out)
                            have n8_ := Aside0.mk (HB.out)
                            clear HO_6
                            clear HO_8
                            clear HO_9
                            clear HO_11
                            clear HO_12
                            clear HO_14
                            clear HO_15
                            clear HO_16
                            clear HB
                            have HO_6 := n0_
                            have HO_8 := n1_
                            have HO_9 := n2_
                            have HO_11 := n3_
                            have HO_12 := n4_
                            have HO_14 := n5_
                            have HO_15 := n6_
                            have HO_16 := n7_
                            have HB := n8_
                            clear n0_ n1_ n2_ n3_ n4_ n5_ n6_ n7_ n8_
                            obtain ⟨Ao51, co51, eo51⟩ := Kd.R_slice HO_14.out
                            (first | subst eo51 | (injection eo51 with f1_ f2_ f3_; have f4_ := f1_.symm; have f5_ := f3_.symm; clear f1_ f2_ f3_; subst f4_; subst f5_))
                            have p565 : 0 ≤ (x17_3 : Int) := of_decide_eq_true (by first | (with_reducible assumption) | assumption)
                            have q565 : x17_3 < (t559.length : Int) := of_decide_eq_true (by first | (with_reducible assumption) | assumption)
                            obtain ⟨ad565, e565, hx565_0⟩ := Kd.at_bool (Kd.R_reads' HO_14.out).2.2 x17_3 p565 q565
                            (try rw [← Nbq25.out] at hx565_0)
                            (try rw [← Nbq38.out] at hx565_0)
                            (try rw [← Nbq41.out] at hx565_0)
                            (try rw [← Nbq48.out] at hx565_0)
                            cases e565
                            replace p565 := eq_true p565
                            replace q565 := eq_true q565
                            obtain ⟨Ao52, co52, eo52⟩ := Kd.R_slice HO_15.out
                            (first | subst eo52 | (injection eo52 with f1_ f2_ f3_; have f4_ := f1_.symm; have f5_ := f3_.symm; clear f1_ f2_ f3_; subst f4_; subst f5_))
                            have p566 : 0 ≤ (x17_3 : Int) := of_decide_eq_true (by first | (with_reducible assumption) | assumption)
                            have q566 : x17_3 < (t562.length : Int) := of_decide_eq_true (by first | (with_reducible assumption) | assumption)
                            obtain ⟨ad566, e566, hx566_0⟩ := Kd.at_bool (Kd.R_reads' HO_15.out).2.2 x17_3 p566 q566
                            (try rw [← Nbq25.out] at hx566_0)
                            (try rw [← Nbq38.out] at hx566_0)
                            (try rw [← Nbq41.out] at hx566_0)
                            (try rw [← Nbq48.out] at hx566_0)
                            cases e566
                            replace p566 := eq_true p566
                            replace q566 := eq_true q566
                            have p567 : 0 ≤ (x17_3 : Int) := of_decide_eq_true (by first | (with_reducible assumption) | assumption)
                            have q567 : x17_3 < (t542.length : Int) := of_decide_eq_true (by first | (with_reducible assumption) | assumption)
                            obtain ⟨ad567, e567, hx567_0⟩ := Kd.at_int (Kd.R_reads' HO_6.out).2.2 x17_3 p567 q567
                            cases e567
                            replace p567 := eq_true p567
                            replace q567 := eq_true q567
                            have p568 : 0 ≤ (x13_2 : Int) := of_decide_eq_true (by first | (with_reducible assumption) | assumption)
                            have q568 : x13_2 < (t542.length : Int) := of_decide_eq_true (by first | (with_reducible assumption) | assumption)
                            obtain ⟨ad568, e568, hx568_0⟩ := Kd.at_int (Kd.R_reads' HO_6.out).2.2 x13_2 p568 q568
                            obtain rfl : ad567 = ad568 := (by injection e568)
                            replace p568 := eq_true p568
                            replace q568 := eq_true q568
                            have p569 : 0 ≤ (x17_3 : Int) := of_decide_eq_true (by first | (with_reducible assumption) | assumption)
                            have q569 : x17_3 < (x11_3.length : Int) := of_decide_eq_true (by first | (with_reducible assumption) | assumption)
                            obtain ⟨ad569, e569, hx569_0⟩ := Kd.at_bool (Kd.R_reads' HO_11.out).2.2 x17_3 p569 q569
                            (try rw [← Nbq25.out] at hx569_0)
                            (try rw [← Nbq38.out] at hx569_0)
                            (try rw [← Nbq41.out] at hx569_0)
                            (try rw [← Nbq48.out] at hx569_0)
                            obtain rfl : ad558 = ad569 := (by injection e569)
                            replace p569 := eq_true p569
                            replace q569 := eq_true q569
                            go_quiet (fail)
                            try go_wp2
                            (try simp only [← hl11_3])
                            go_roundg k3
                            case measure => have := HK1.out; have := HK2.out; have := HK3.out; omega
                            case rel => exact ⟨(x11_3), (x16_3), (wrap64 (x17_3 + 1)), (by first | rfl | (simp; done) | (simp [*]; done)), H', ⟨by have := HK1.out; have := HK2.out; have := HK3.out; omega⟩, ⟨by (try simp only [hl11_3]); (with_reducible repeat (first | apply Kd.R_alloc | apply Kd.R_drewN | apply Kd.R_drew)); exact HO_6.out⟩, ⟨by (try simp only [hl11_3]); (with_reducible repeat (first | apply Kd.R_alloc | apply Kd.R_drewN | apply Kd.R_drew)); exact HO_8.out⟩, ⟨by (try simp only [hl11_3]); (with_reducible repeat (first | apply Kd.R_alloc | apply Kd.R_drewN | apply Kd.R_drew)); exact HO_9.out⟩, ⟨by (try simp only [hl11_3]); (with_reducible repeat (first | apply Kd.R_alloc | apply Kd.R_drewN | apply Kd.R_drew)); exact HO_11.out⟩, ⟨by (try simp only [hl11_3]); (with_reducible repeat (first | apply Kd.S_alloc | apply Kd.S_drewN | apply Kd.S_drew)); exact HO_12.out⟩, ⟨by (try simp only [hl11_3]); (with_reducible repeat (first | apply Kd.R_alloc | apply Kd.R_drewN | apply Kd.R_drew)); exact HO_14.out⟩, ⟨by (try simp only [hl11_3]); (with_reducible repeat (first | apply Kd.R_alloc | apply Kd.R_drewN | apply Kd.R_drew)); exact HO_15.out⟩, ⟨by (try simp only [hl11_3]); (with_reducible repeat (first | apply Kd.R_alloc | apply Kd.R_drewN | apply Kd.R_drew)); exact HO_16.out⟩, ⟨by repeat (first | (with_reducible first | exact HB.out | apply below_alloc | apply pw_below_drewN | apply below_drew1) | exact HB.out)⟩⟩
                           ·replace c49 := Bool.eq_false_iff.mpr c49
                            subst c49
                            have H1 : (if x16_3.length < 17592186044416 then (tenetref02_Classes.l2 k3 a0 t542 t546 x9_1 (x11_3.set (x17_3 : Int).toNat true) x12_2 x13_2 t559 t562 (x16_3 ++ [x17_3]) (wrap64 (x17_3 + 1))) else (none)) = some (r1, r2) := by rw [if_neg (show ¬ (false = true) by decide)] at H; exact H
                            clear H
                            have H := H1
                            clear H1
                            by_cases c53 : x16_3.length < 17592186044416
                            ·rw [if_pos c53] at H
                             have LMc53 := Aside0.mk c53
                             clear c53
                             obtain ⟨y570, hy570⟩ : ∃ y_ : List Int, y_ = (x16_3 ++ [x17_3]) := ⟨_, rfl⟩
                             replace H : (tenetref02_Classes.l2 k3 a0 t542 t546 x9_1 (x11_3.set (x17_3 : Int).toNat true) x12_2 x13_2 t559 t562 y570 (wrap64 (x17_3 + 1))) = some (r1, r2) := by first | (rw [hy570]; with_reducible exact H) | (have H2_ := (Option.bind_some _ _).symm.trans H; rw [hy570]; with_reducible exact H2_) | (have H2_ := (Option.bind_some _ _).symm.trans H; with_reducible exact H2_) | with_reducible exact H | (rw [hy570]; exact H) | exact H
                             have Ny570 := Aside0.mk hy570
                             clear hy570
                             obtain ⟨y573, hy573⟩ : ∃ y_ : List Bool, y_ = (x11_3.set (x17_3 : Int).toNat true) := ⟨_, rfl⟩
                             replace H : (tenetref02_Classes.l2 k3 a0 t542 t546 x9_1 y573 x12_2 x13_2 t559 t562 y570 (wrap64 (x17_3 + 1))) = some (r1, r2) := by first | (rw [hy573]; with_reducible exact H) | (have H2_ := (Option.bind_some _ _).symm.trans H; rw [hy573]; with_reducible exact H2_) | (have H2_ := (Option.bind_some _ _).symm.trans H; with_reducible exact H2_) | with_reducible exact H | (rw [hy573]; exact H) | exact H
                             have Ny573 := Aside0.mk hy573
                             clear hy573
                             have H' := Aside0.mk H
                             clear H
                             try go_wp2
                             have n0_ := Aside0.mk (HO_6.out)
                             have n1_ := Aside0.mk (HO_8.out)
                             have n2_ := Aside0.mk (HO_9.out)
                             have n3_ := Aside0.mk (HO_11.out)
                             have n4_ := Aside0.mk (HO_12.out)
                             have n5_ := Aside0.mk (HO_14.out)
                             have n6_ := Aside0.mk (HO_15.out)
                             have n7_ := Aside0.mk (HO_16.out)
                             have n8_ := Aside0.mk (HB.out)
                             clear HO_6
                             clear HO_8
                             clear HO_9
                             clear HO_11
                             clear HO_12
                             clear HO_14
                             clear HO_15
                             clear HO_16
                             clear HB
                             have HO_6 := n0_
                             have HO_8 := n1_
                             have HO_9 := n2_
                             have HO_11 := n3_
                             have HO_12 := n4_
                             have HO_14 := n5_
                             have HO_15 := n6_
                             have HO_16 := n7_
                             have HB := n8_
                             clear n0_ n1_ n2_ n3_ n4_ n5_ n6_ n7_ n8_
                             obtain ⟨Ao56, co56, eo56⟩ := Kd.R_slice HO_14.out
                             (first | subst eo56 | (injection eo56 with f1_ f2_ f3_; have f4_ := f1_.symm; have f5_ := f3_.symm; clear f1_ f2_ f3_; subst f4_; subst f5_))
                             have p565 : 0 ≤ (x17_3 : Int) := of_decide_eq_true (by first | (with_reducible assumption) | assumption)
                             have q565 : x17_3 < (t559.length : Int) := of_decide_eq_true (by first | (with_reducible assumption) | assumption)
                             obtain ⟨ad565, e565, hx565_0⟩ := Kd.at_bool (Kd.R_reads' HO_14.out).2.2 x17_3 p565 q565
                             (try rw [← Nbq25.out] at hx565_0)
                             (try rw [← Nbq38.out] at hx565_0)
                             (try rw [← Nbq41.out] at hx565_0)
                             (try rw [← Nbq48.out] at hx565_0)
                             cases e565
                             replace p565 := eq_true p565
                             replace q565 := eq_true q565
                             obtain ⟨Ao57, co57, eo57⟩ := Kd.R_slice HO_15.out
                             (first | subst eo57 | (injection eo57 with f1_ f2_ f3_; have f4_ := f1_.symm; have f5_ := f3_.symm; clear f1_ f2_ f3_; subst f4_; subst f5_))
                             have p566 : 0 ≤ (x17_3 : Int) := of_decide_eq_true (by first | (with_reducible assumption) | assumption)
                             have q566 : x17_3 < (t562.length : Int) := of_decide_eq_true (by first | (with_reducible assumption) | assumption)
                             obtain ⟨ad566, e566, hx566_0⟩ := Kd.at_bool (Kd.R_reads' HO_15.out).2.2 x17_3 p566 q566
                             (try rw [← Nbq25.out] at hx566_0)
                             (try rw [← Nbq38.out] at hx566_0)
                             (try rw [← Nbq41.out] at hx566_0)
                             (try rw [← Nbq48.out] at hx566_0)
                             cases e566
                             replace p566 := eq_true p566
                             replace q566 := eq_true q566
                             have p567 : 0 ≤ (x17_3 : Int) := of_decide_eq_true (by first | (with_reducible assumption) | assumption)
                             have q567 : x17_3 < (t542.length : Int) := of_decide_eq_true (by first | (with_reducible assumption) | assumption)
                             obtain ⟨ad567, e567, hx567_0⟩ := Kd.at_int (Kd.R_reads' HO_6.out).2.2 x17_3 p567 q567
                             cases e567
                             replace p567 := eq_true p567
                             replace q567 := eq_true q567
                             have p568 : 0 ≤ (x13_2 : Int) := of_decide_eq_true (by first | (with_reducible assumption) | assumption)
                             have q568 : x13_2 < (t542.length : Int) := of_decide_eq_true (by first | (with_reducible assumption) | assumption)
                             obtain ⟨ad568, e568, hx568_0⟩ := Kd.at_int (Kd.R_reads' HO_6.out).2.2 x13_2 p568 q568
                             obtain rfl : ad567 = ad568 := (by injection e568)
                             replace p568 := eq_true p568
                             replace q568 := eq_true q568
                             have p569 : 0 ≤ (x17_3 : Int) := of_decide_eq_true (by first | (with_reducible assumption) | assumption)
                             have q569 : x17_3 < (x11_3.length : Int) := of_decide_eq_true (by first | (with_reducible assumption) | assumption)
                             obtain ⟨ad569, e569, hx569_0⟩ := Kd.at_bool (Kd.R_reads' HO_11.out).2.2 x17_3 p569 q569
                             (try rw [← Nbq25.out] at hx569_0)
                             (try rw [← Nbq38.out] at hx569_0)
                             (try rw [← Nbq41.out] at hx569_0)
                             (try rw [← Nbq48.out] at hx569_0)
                             obtain rfl : ad558 = ad569 := (by injection e569)
                             replace p569 := eq_true p569
                             replace q569 := eq_true q569
                             go_quiet (fail)
                             try go_wp2_with (first | ((with_reducible refine gate_builtin (b := .append) (xs := #[.tmp 114, .tmp 116]) rfl ?_); at_builtin; refine Kd.R_append (Kd.int .i64) (w0 := w) w.heap.size rfl (.tmp 114) (.tmp 116) 25 3 (.int .i64 0) 8 rfl Try.underlying25 info3 rfl (by decide) (by omega) u16 x16_3 x17_3 [.int .i64 x17_3] (fun k_ => some k_ ≠ (.slice (some ad567) t542.length co31 : Value).ownBlock) (fun _ => False) rfl rfl ?aP (fun _ hk => hk.elim) ?aF ?aO ?aB ?aS ?aL ?_; (case aP => exact rfl); (case aB => exact (by repeat (first | (with_reducible first | exact HB.out | apply below_alloc | apply pw_below_drewN | apply below_drew1) | exact HB.out))); (case aF => exact (fun k_ hk => Kd.fresh' (Kd.R_lt (by (with_reducible repeat (first | apply Kd.R_alloc | apply Kd.R_drewN | apply Kd.R_drew)); exact HO_6.out)) k_ hk)); (case aO => exact (by (with_reducible repeat (first | apply Kd.R_alloc | apply Kd.R_drewN | apply Kd.R_drew)); exact HO_16.out)); (case aS => exact (below_size (by repeat (first | (with_reducible first | exact HB.out | apply below_alloc | apply pw_below_drewN | apply below_drew1) | exact HB.out)))); (case aL => have := LMc53.out; omega); intro v571 w58 ho hb hg hat; rw [← Ny570.out] at ho; have n0_ := Aside0.mk (Kd.R_after (ok := (fun _ => True)) (by (with_reducible repeat (first | apply Kd.R_alloc | apply Kd.R_drewN | apply Kd.R_drew)); exact Kd.R_mono HO_6.out (fun _ hk => ⟨trivial, hk⟩)) hg hat); have n1_ := Aside0.mk (Kd.R_over' (by (with_reducible repeat (first | apply Kd.R_alloc | apply Kd.R_drewN | apply Kd.R_drew)); exact HO_8.out) (Kd.R_typed (by (with_reducible repeat (first | apply Kd.R_alloc | apply Kd.R_drewN | apply Kd.R_drew)); exact HO_16.out)) (by decide) hg); have n2_ := Aside0.mk (Kd.R_over' (by (with_reducible repeat (first | apply Kd.R_alloc | apply Kd.R_drewN | apply Kd.R_drew)); exact HO_9.out) (Kd.R_typed (by (with_reducible repeat (first | apply Kd.R_alloc | apply Kd.R_drewN | apply Kd.R_drew)); exact HO_16.out)) (by decide) hg); have n3_ := Aside0.mk (Kd.R_over' (by (with_reducible repeat (first | apply Kd.R_alloc | apply Kd.R_drewN | apply Kd.R_drew)); exact HO_11.out) (Kd.R_typed (by (with_reducible repeat (first | apply Kd.R_alloc | apply Kd.R_drewN | apply Kd.R_drew)); exact HO_16.out)) (by decide) hg); have n4_ := Aside0.mk (Kd.S_after (ok := (fun k_ => some k_ ≠ (.slice (some ad567) t542.length co31 : Value).ownBlock)) (by (with_reducible repeat (first | apply Kd.S_alloc | apply Kd.S_drewN | apply Kd.S_drew)); exact HO_12.out) hg hat); have n5_ := Aside0.mk (Kd.R_over' (by (with_reducible repeat (first | apply Kd.R_alloc | apply Kd.R_drewN | apply Kd.R_drew)); exact HO_14.out) (Kd.R_typed (by (with_reducible repeat (first | apply Kd.R_alloc | apply Kd.R_drewN | apply Kd.R_drew)); exact HO_16.out)) (by decide) hg); have n6_ := Aside0.mk (Kd.R_over' (by (with_reducible repeat (first | apply Kd.R_alloc | apply Kd.R_drewN | apply Kd.R_drew)); exact HO_15.out) (Kd.R_typed (by (with_reducible repeat (first | apply Kd.R_alloc | apply Kd.R_drewN | apply Kd.R_drew)); exact HO_16.out)) (by decide) hg); have n7_ := Aside0.mk (hb); have n8_ := Aside0.mk (ho); clear HO_6; clear HO_8; clear HO_9; clear HO_11; clear HO_12; clear HO_14; clear HO_15; clear HB; clear HO_16; have HO_6 := n0_; have HO_8 := n1_; have HO_9 := n2_; have HO_11 := n3_; have HO_12 := n4_; have HO_14 := n5_; have HO_15 := n6_; have HB := n7_; have HO572 := n8_; clear n0_ n1_ n2_ n3_ n4_ n5_ n6_ n7_ n8_; clear ho hb hg hat; have p54 : 0 ≤ (x17_3 : Int) := of_decide_eq_true (by first | (with_reducible assumption) | assumption); have q54 : (x17_3 : Int) < ((x11_3.length : Int) : Int) := of_decide_eq_true (by first | (with_reducible assumption) | assumption); obtain ⟨go54, co54, eo54, gb54, gl54, cl54, HG54⟩ := Kd.R_form HO_11.out (by omega); (first | cases eo54 | (injection eo54 with ea_ en_ ec_; (first | subst ea_ | (injection ea_ with ea_; subst ea_)); subst ec_; clear en_)); have GB54 := Aside0.mk gb54; have GG54 := Aside0.mk HG54; clear gb54 gl54 HG54; (first | simp only [add_plain] at hx558_0 | skip); (first | simp only [add_plain] at hx569_0 | skip); obtain ⟨hx54_0, hf54_0⟩ := Kd.R_celln false HO_11.out (x17_3 : Int) p54 q54; replace p54 := eq_true p54; replace q54 := eq_true q54; obtain ⟨hy59_, hz59_⟩ := Kd.R_celln false HO_11.out (x17_3 : Int) (of_decide_eq_true (by first | (with_reducible assumption) | assumption)) (of_decide_eq_true (by first | (with_reducible assumption) | assumption)); have HP59 := Kd.R_putg HO_11.out (x17_3 : Int) true) | ((with_reducible refine gate_store (t := 4) (p := 120) rfl ?_); refine store_event (t := 4) (p := 120) (v := ?vo_w60) (w1 := (w58.setCell ⟨go54, (x17_3 : Int).toNat, none⟩ (.bool true))) ?hg ?ho ?hn ?hr ?_; (case ho => rfl); (case hg => rfl); (case hn => rfl); (case hr => first | (go_simp; done) | (go_simp; rfl)); intro w60 hw; have hg : w58.grownBy w60 (some go54) := (by rw [hw]; exact HP59.2); have hp_ : Kd.R Kd.bool 4 w60 w.heap.size (fun k_ => some k_ ≠ (.slice (some ad565) t559.length co56 : Value).ownBlock ∧ some k_ ≠ (.slice (some ad566) t562.length co57 : Value).ownBlock) (.slice (some ⟨go54, 0, none⟩) x11_3.length co30) y573 := (by rw [hw, Ny573.out]; exact HP59.1); clear HP59; have n0_ := Aside0.mk (Kd.R_over' (v := (.slice (some ⟨go54, 0, none⟩) x11_3.length co30)) (by (with_reducible repeat (first | apply Kd.R_alloc | apply Kd.R_drewN | apply Kd.R_drew)); exact HO_6.out) (Kd.R_typed HO_11.out) (by decide) hg); have n1_ := Aside0.mk (Kd.R_over' (v := (.slice (some ⟨go54, 0, none⟩) x11_3.length co30)) (by (with_reducible repeat (first | apply Kd.R_alloc | apply Kd.R_drewN | apply Kd.R_drew)); exact HO_8.out) (Kd.R_typed HO_11.out) (by decide) hg); have n2_ := Aside0.mk (Kd.R_over' (v := (.slice (some ⟨go54, 0, none⟩) x11_3.length co30)) (by (with_reducible repeat (first | apply Kd.R_alloc | apply Kd.R_drewN | apply Kd.R_drew)); exact HO_9.out) (Kd.R_typed HO_11.out) (by decide) hg); have n3_ := Aside0.mk (hp_); have n4_ := Aside0.mk (Kd.S_over' (v := (.slice (some ⟨go54, 0, none⟩) x11_3.length co30)) (by (with_reducible repeat (first | apply Kd.S_alloc | apply Kd.S_drewN | apply Kd.S_drew)); exact HO_12.out) (Kd.R_typed HO_11.out) (by decide) hg); have n5_ := Aside0.mk (Kd.R_after (v := (.slice (some ⟨go54, 0, none⟩) x11_3.length co30)) (v1 := (.slice (some ⟨go54, 0, none⟩) x11_3.length co30)) (ok := (fun k_ => some k_ ≠ (.slice (some ad566) t562.length co57 : Value).ownBlock)) (by (with_reducible repeat (first | apply Kd.R_alloc | apply Kd.R_drewN | apply Kd.R_drew)); exact Kd.R_mono HO_14.out (fun _ hk => ⟨hk.2, hk.1⟩)) hg (.inl rfl)); have n6_ := Aside0.mk (Kd.R_after (v := (.slice (some ⟨go54, 0, none⟩) x11_3.length co30)) (v1 := (.slice (some ⟨go54, 0, none⟩) x11_3.length co30)) (ok := (fun k_ => some k_ ≠ (.slice (some ad565) t559.length co56 : Value).ownBlock)) (by (with_reducible repeat (first | apply Kd.R_alloc | apply Kd.R_drewN | apply Kd.R_drew)); exact Kd.R_mono HO_15.out (fun _ hk => ⟨hk.2, hk.1⟩)) hg (.inl rfl)); have n7_ := Aside0.mk (Kd.R_over' (v := (.slice (some ⟨go54, 0, none⟩) x11_3.length co30)) (by (with_reducible repeat (first | apply Kd.R_alloc | apply Kd.R_drewN | apply Kd.R_drew)); exact HO572.out) (Kd.R_typed HO_11.out) (by decide) hg); have n8_ := Aside0.mk ((by rw [hw]; exact below_set (HB.out) GB54.out : Below w.heap.size w w60)); clear HO_6; clear HO_8; clear HO_9; clear HO_11; clear HO_12; clear HO_14; clear HO_15; clear HO572; clear HB; have HO_6 := n0_; have HO_8 := n1_; have HO_9 := n2_; have HO_11 := n3_; have HO_12 := n4_; have HO_14 := n5_; have HO_15 := n6_; have HO572 := n7_; have HB := n8_; clear n0_ n1_ n2_ n3_ n4_ n5_ n6_ n7_ n8_; clear hg hw hp_))
                             (try simp only [← hl11_3])
                             try simp only [add_plain] at *
                             go_roundg k3
                             case measure => have := HK1.out; have := HK2.out; have := HK3.out; omega
                             case rel => exact ⟨(y573), (y570), (wrap64 (x17_3 + 1)), (by first | rfl | (simp; done) | (simp [*]; done)), H', ⟨by have := HK1.out; have := HK2.out; have := HK3.out; omega⟩, ⟨by (try simp only [hl11_3]); (with_reducible repeat (first | apply Kd.R_alloc | apply Kd.R_drewN | apply Kd.R_drew)); exact Kd.R_mono HO_6.out (fun _ hk => hk.2)⟩, ⟨by (try simp only [hl11_3]); (with_reducible repeat (first | apply Kd.R_alloc | apply Kd.R_drewN | apply Kd.R_drew)); exact HO_8.out⟩, ⟨by (try simp only [hl11_3]); (with_reducible repeat (first | apply Kd.R_alloc | apply Kd.R_drewN | apply Kd.R_drew)); exact HO_9.out⟩, ⟨by (try simp only [hl11_3]); (with_reducible repeat (first | apply Kd.R_alloc | apply Kd.R_drewN | apply Kd.R_drew)); exact HO_11.out⟩, ⟨by (try simp only [hl11_3]); (with_reducible repeat (first | apply Kd.S_alloc | apply Kd.S_drewN | apply Kd.S_drew)); exact HO_12.out⟩, ⟨by (try simp only [hl11_3]); (with_reducible repeat (first | apply Kd.R_alloc | apply Kd.R_drewN | apply Kd.R_drew)); exact Kd.R_mono HO_14.out (fun _ hk => ⟨hk.2, hk.1⟩)⟩, ⟨by (try simp only [hl11_3]); (with_reducible repeat (first | apply Kd.R_alloc | apply Kd.R_drewN | apply Kd.R_drew)); exact Kd.R_mono HO_15.out (fun _ hk => ⟨hk.2, hk.1⟩)⟩, ⟨by (try simp only [hl11_3]); (with_reducible repeat (first | apply Kd.R_alloc | apply Kd.R_drewN | apply Kd.R_drew)); exact HO572.out⟩, ⟨by repeat (first | (with_reducible first | exact HB.out | apply below_alloc | apply pw_below_drewN | apply below_drew1) | exact HB.out)⟩⟩
                            ·rw [if_neg c53] at H
                             exact absurd H (by simp)
                          ·rw [if_neg c47] at H
                           exact absurd H (by simp)
                         ·rw [if_neg c46] at H
                          have c46b0 : ((rd t542 x17_3) == (rd t542 x13_2)) = false := beq_eq_false_iff_ne.mpr c46
                          have c46b1 : ((rd t542 x17_3) != (rd t542 x13_2)) = true := bne_iff_ne.mpr c46
                          have H' := Aside0.mk H
                          clear H
                          try go_wp2
                          have n0_ := Aside0.mk (HO_6.out)
                          have n1_ := Aside0.mk (HO_8.out)
                          have n2_ := Aside0.mk (HO_9.out)
                          have n3_ := Aside0.mk (HO_11.out)
                          have n4_ := Aside0.mk (HO_12.out)
                          have n5_ := Aside0.mk (HO_14.out)
                          have n6_ := Aside0.mk (HO_15.out)
                          have n7_ := Aside0.mk (HO_16.out)
                          have n8_ := Aside0.mk (HB.out)
                          clear HO_6
                          clear HO_8
                          clear HO_9
                          clear HO_11
                          clear HO_12
                          clear HO_14
                          clear HO_15
                          clear HO_16
                          clear HB
                          have HO_6 := n0_
                          have HO_8 := n1_
                          have HO_9 := n2_
                          have HO_11 := n3_
                          have HO_12 := n4_
                          have HO_14 := n5_
                          have HO_15 := n6_
                          have HO_16 := n7_
                          have HB := n8_
                          clear n0_ n1_ n2_ n3_ n4_ n5_ n6_ n7_ n8_
                          obtain ⟨Ao62, co62, eo62⟩ := Kd.R_slice HO_14.out
                          (first | subst eo62 | (injection eo62 with f1_ f2_ f3_; have f4_ := f1_.symm; have f5_ := f3_.symm; clear f1_ f2_ f3_; subst f4_; subst f5_))
                          have p565 : 0 ≤ (x17_3 : Int) := of_decide_eq_true (by first | (with_reducible assumption) | assumption)
                          have q565 : x17_3 < (t559.length : Int) := of_decide_eq_true (by first | (with_reducible assumption) | assumption)
                          obtain ⟨ad565, e565, hx565_0⟩ := Kd.at_bool (Kd.R_reads' HO_14.out).2.2 x17_3 p565 q565
                          (try rw [← Nbq25.out] at hx565_0)
                          (try rw [← Nbq38.out] at hx565_0)
                          (try rw [← Nbq41.out] at hx565_0)
                          cases e565
                          replace p565 := eq_true p565
                          replace q565 := eq_true q565
                          obtain ⟨Ao63, co63, eo63⟩ := Kd.R_slice HO_15.out
                          (first | subst eo63 | (injection eo63 with f1_ f2_ f3_; have f4_ := f1_.symm; have f5_ := f3_.symm; clear f1_ f2_ f3_; subst f4_; subst f5_))
                          have p566 : 0 ≤ (x17_3 : Int) := of_decide_eq_true (by first | (with_reducible assumption) | assumption)
                          have q566 : x17_3 < (t562.length : Int) := of_decide_eq_true (by first | (with_reducible assumption) | assumption)
                          obtain ⟨ad566, e566, hx566_0⟩ := Kd.at_bool (Kd.R_reads' HO_15.out).2.2 x17_3 p566 q566
                          (try rw [← Nbq25.out] at hx566_0)
                          (try rw [← Nbq38.out] at hx566_0)
                          (try rw [← Nbq41.out] at hx566_0)
                          cases e566
                          replace p566 := eq_true p566
                          replace q566 := eq_true q566
                          have p567 : 0 ≤ (x17_3 : Int) := of_decide_eq_true (by first | (with_reducible assumption) | assumption)
                          have q567 : x17_3 < (t542.length : Int) := of_decide_eq_true (by first | (with_reducible assumption) | assumption)
                          obtain ⟨ad567, e567, hx567_0⟩ := Kd.at_int (Kd.R_reads' HO_6.out).2.2 x17_3 p567 q567
                          cases e567
                          replace p567 := eq_true p567
                          replace q567 := eq_true q567
                          have p568 : 0 ≤ (x13_2 : Int) := of_decide_eq_true (by first | (with_reducible assumption) | assumption)
                          have q568 : x13_2 < (t542.length : Int) := of_decide_eq_true (by first | (with_reducible assumption) | assumption)
                          obtain ⟨ad568, e568, hx568_0⟩ := Kd.at_int (Kd.R_reads' HO_6.out).2.2 x13_2 p568 q568
                          obtain rfl : ad567 = ad568 := (by injection e568)
                          replace p568 := eq_true p568
                          replace q568 := eq_true q568
                          go_quiet (fail)
                          try go_wp2
                          (try simp only [← hl11_3])
                          go_roundg k3
                          case measure => have := HK1.out; have := HK2.out; have := HK3.out; omega
                          case rel => exact ⟨(x11_3), (x16_3), (wrap64 (x17_3 + 1)), (by first | rfl | (simp; done) | (simp [*]; done)), H', ⟨by have := HK1.out; have := HK2.out; have := HK3.out; omega⟩, ⟨by (try simp only [hl11_3]); (with_reducible repeat (first | apply Kd.R_alloc | apply Kd.R_drewN | apply Kd.R_drew)); exact HO_6.out⟩, ⟨by (try simp only [hl11_3]); (with_reducible repeat (first | apply Kd.R_alloc | apply Kd.R_drewN | apply Kd.R_drew)); exact HO_8.out⟩, ⟨by (try simp only [hl11_3]); (with_reducible repeat (first | apply Kd.R_alloc | apply Kd.R_drewN | apply Kd.R_drew)); exact HO_9.out⟩, ⟨by (try simp only [hl11_3]); (with_reducible repeat (first | apply Kd.R_alloc | apply Kd.R_drewN | apply Kd.R_drew)); exact HO_11.out⟩, ⟨by (try simp only [hl11_3]); (with_reducible repeat (first | apply Kd.S_alloc | apply Kd.S_drewN | apply Kd.S_drew)); exact HO_12.out⟩, ⟨by (try simp only [hl11_3]); (with_reducible repeat (first | apply Kd.R_alloc | apply Kd.R_drewN | apply Kd.R_drew)); exact HO_14.out⟩, ⟨by (try simp only [hl11_3]); (with_reducible repeat (first | apply Kd.R_alloc | apply Kd.R_drewN | apply Kd.R_drew)); exact HO_15.out⟩, ⟨by (try simp only [hl11_3]); (with_reducible repeat (first | apply Kd.R_alloc | apply Kd.R_drewN | apply Kd.R_drew)); exact HO_16.out⟩, ⟨by repeat (first | (with_reducible first | exact HB.out | apply below_alloc | apply pw_below_drewN | apply below_drew1) | exact HB.out)⟩⟩
                        ·rw [if_neg c45] at H
                         exact absurd H (by simp)
                       ·rw [if_neg c44] at H
                        exact absurd H (by simp)
                      ·rw [if_neg c43] at H
                       exact absurd H (by simp)
                     ·replace c42 := Bool.eq_false_iff.mpr c42
                      subst c42
                      have H1 : (tenetref02_Classes.l2 k3 a0 t542 t546 x9_1 x11_3 x12_2 x13_2 t559 t562 x16_3 (wrap64 (x17_3 + 1))) = some (r1, r2) := by rw [if_neg (show ¬ (false = true) by decide)] at H; exact H
                      clear H
                      have H := H1
                      clear H1
                      have H' := Aside0.mk H
                      clear H
                      try go_wp2
                      have n0_ := Aside0.mk (HO_6.out)
                      have n1_ := Aside0.mk (HO_8.out)
                      have n2_ := Aside0.mk (HO_9.out)
                      have n3_ := Aside0.mk (HO_11.out)
                      have n4_ := Aside0.mk (HO_12.out)
                      have n5_ := Aside0.mk (HO_14.out)
                      have n6_ := Aside0.mk (HO_15.out)
                      have n7_ := Aside0.mk (HO_16.out)
                      have n8_ := Aside0.mk (HB.out)
                      clear HO_6
                      clear HO_8
                      clear HO_9
                      clear HO_11
                      clear HO_12
                      clear HO_14
                      clear HO_15
                      clear HO_16
                      clear HB
                      have HO_6 := n0_
                      have HO_8 := n1_
                      have HO_9 := n2_
                      have HO_11 := n3_
                      have HO_12 := n4_
                      have HO_14 := n5_
                      have HO_15 := n6_
                      have HO_16 := n7_
                      have HB := n8_
                      clear n0_ n1_ n2_ n3_ n4_ n5_ n6_ n7_ n8_
                      obtain ⟨Ao65, co65, eo65⟩ := Kd.R_slice HO_14.out
                      (first | subst eo65 | (injection eo65 with f1_ f2_ f3_; have f4_ := f1_.symm; have f5_ := f3_.symm; clear f1_ f2_ f3_; subst f4_; subst f5_))
                      have p565 : 0 ≤ (x17_3 : Int) := of_decide_eq_true (by first | (with_reducible assumption) | assumption)
                      have q565 : x17_3 < (t559.length : Int) := of_decide_eq_true (by first | (with_reducible assumption) | assumption)
                      obtain ⟨ad565, e565, hx565_0⟩ := Kd.at_bool (Kd.R_reads' HO_14.out).2.2 x17_3 p565 q565
                      (try rw [← Nbq25.out] at hx565_0)
                      (try rw [← Nbq38.out] at hx565_0)
                      (try rw [← Nbq41.out] at hx565_0)
                      cases e565
                      replace p565 := eq_true p565
                      replace q565 := eq_true q565
                      obtain ⟨Ao66, co66, eo66⟩ := Kd.R_slice HO_15.out
                      (first | subst eo66 | (injection eo66 with f1_ f2_ f3_; have f4_ := f1_.symm; have f5_ := f3_.symm; clear f1_ f2_ f3_; subst f4_; subst f5_))
                      have p566 : 0 ≤ (x17_3 : Int) := of_decide_eq_true (by first | (with_reducible assumption) | assumption)
                      have q566 : x17_3 < (t562.length : Int) := of_decide_eq_true (by first | (with_reducible assumption) | assumption)
                      obtain ⟨ad566, e566, hx566_0⟩ := Kd.at_bool (Kd.R_reads' HO_15.out).2.2 x17_3 p566 q566
                      (try rw [← Nbq25.out] at hx566_0)
                      (try rw [← Nbq38.out] at hx566_0)
                      (try rw [← Nbq41.out] at hx566_0)
                      cases e566
                      replace p566 := eq_true p566
                      replace q566 := eq_true q566
                      go_quiet (fail)
                      try go_wp2
                      (try simp only [← hl11_3])
                      go_roundg k3
                      case measure => have := HK1.out; have := HK2.out; have := HK3.out; omega
                      case rel => exact ⟨(x11_3), (x16_3), (wrap64 (x17_3 + 1)), (by first | rfl | (simp; done) | (simp [*]; done)), H', ⟨by have := HK1.out; have := HK2.out; have := HK3.out; omega⟩, ⟨by (try simp only [hl11_3]); (with_reducible repeat (first | apply Kd.R_alloc | apply Kd.R_drewN | apply Kd.R_drew)); exact HO_6.out⟩, ⟨by (try simp only [hl11_3]); (with_reducible repeat (first | apply Kd.R_alloc | apply Kd.R_drewN | apply Kd.R_drew)); exact HO_8.out⟩, ⟨by (try simp only [hl11_3]); (with_reducible repeat (first | apply Kd.R_alloc | apply Kd.R_drewN | apply Kd.R_drew)); exact HO_9.out⟩, ⟨by (try simp only [hl11_3]); (with_reducible repeat (first | apply Kd.R_alloc | apply Kd.R_drewN | apply Kd.R_drew)); exact HO_11.out⟩, ⟨by (try simp only [hl11_3]); (with_reducible repeat (first | apply Kd.S_alloc | apply Kd.S_drewN | apply Kd.S_drew)); exact HO_12.out⟩, ⟨by (try simp only [hl11_3]); (with_reducible repeat (first | apply Kd.R_alloc | apply Kd.R_drewN | apply Kd.R_drew)); exact HO_14.out⟩, ⟨by (try simp only [hl11_3]); (with_reducible repeat (first | apply Kd.R_alloc | apply Kd.R_drewN | apply Kd.R_drew)); exact HO_15.out⟩, ⟨by (try simp only [hl11_3]); (with_reducible repeat (first | apply Kd.R_alloc | apply Kd.R_drewN | apply Kd.R_drew)); exact HO_16.out⟩, ⟨by repeat (first | (with_reducible first | exact HB.out | apply below_alloc | apply pw_below_drewN | apply below_drew1) | exact HB.out)⟩⟩
                    ·rw [if_neg c40] at H
                     exact absurd H (by simp)
                   ·replace c39 := Bool.eq_false_iff.mpr c39
                    subst c39
                    have H1 : (tenetref02_Classes.l2 k3 a0 t542 t546 x9_1 x11_3 x12_2 x13_2 t559 t562 x16_3 (wrap64 (x17_3 + 1))) = some (r1, r2) := by rw [if_neg (show ¬ (false = true) by decide)] at H; exact H
                    clear H
                    have H := H1
                    clear H1
                    have H' := Aside0.mk H
                    clear H
                    try go_wp2
                    have n0_ := Aside0.mk (HO_6.out)
                    have n1_ := Aside0.mk (HO_8.out)
                    have n2_ := Aside0.mk (HO_9.out)
                    have n3_ := Aside0.mk (HO_11.out)
                    have n4_ := Aside0.mk (HO_12.out)
                    have n5_ := Aside0.mk (HO_14.out)
                    have n6_ := Aside0.mk (HO_15.out)
                    have n7_ := Aside0.mk (HO_16.out)
                    have n8_ := Aside0.mk (HB.out)
                    clear HO_6
                    clear HO_8
                    clear HO_9
                    clear HO_11
                    clear HO_12
                    clear HO_14
                    clear HO_15
                    clear HO_16
                    clear HB
                    have HO_6 := n0_
                    have HO_8 := n1_
                    have HO_9 := n2_
                    have HO_11 := n3_
                    have HO_12 := n4_
                    have HO_14 := n5_
                    have HO_15 := n6_
                    have HO_16 := n7_
                    have HB := n8_
                    clear n0_ n1_ n2_ n3_ n4_ n5_ n6_ n7_ n8_
                    obtain ⟨Ao68, co68, eo68⟩ := Kd.R_slice HO_14.out
                    (first | subst eo68 | (injection eo68 with f1_ f2_ f3_; have f4_ := f1_.symm; have f5_ := f3_.symm; clear f1_ f2_ f3_; subst f4_; subst f5_))
                    have p565 : 0 ≤ (x17_3 : Int) := of_decide_eq_true (by first | (with_reducible assumption) | assumption)
                    have q565 : x17_3 < (t559.length : Int) := of_decide_eq_true (by first | (with_reducible assumption) | assumption)
                    obtain ⟨ad565, e565, hx565_0⟩ := Kd.at_bool (Kd.R_reads' HO_14.out).2.2 x17_3 p565 q565
                    (try rw [← Nbq25.out] at hx565_0)
                    (try rw [← Nbq38.out] at hx565_0)
                    cases e565
                    replace p565 := eq_true p565
                    replace q565 := eq_true q565
                    go_quiet (fail)
                    try go_wp2
                    (try simp only [← hl11_3])
                    go_roundg k3
                    case measure => have := HK1.out; have := HK2.out; have := HK3.out; omega
                    case rel => exact ⟨(x11_3), (x16_3), (wrap64 (x17_3 + 1)), (by first | rfl | (simp; done) | (simp [*]; done)), H', ⟨by have := HK1.out; have := HK2.out; have := HK3.out; omega⟩, ⟨by (try simp only [hl11_3]); (with_reducible repeat (first | apply Kd.R_alloc | apply Kd.R_drewN | apply Kd.R_drew)); exact HO_6.out⟩, ⟨by (try simp only [hl11_3]); (with_reducible repeat (first | apply Kd.R_alloc | apply Kd.R_drewN | apply Kd.R_drew)); exact HO_8.out⟩, ⟨by (try simp only [hl11_3]); (with_reducible repeat (first | apply Kd.R_alloc | apply Kd.R_drewN | apply Kd.R_drew)); exact HO_9.out⟩, ⟨by (try simp only [hl11_3]); (with_reducible repeat (first | apply Kd.R_alloc | apply Kd.R_drewN | apply Kd.R_drew)); exact HO_11.out⟩, ⟨by (try simp only [hl11_3]); (with_reducible repeat (first | apply Kd.S_alloc | apply Kd.S_drewN | apply Kd.S_drew)); exact HO_12.out⟩, ⟨by (try simp only [hl11_3]); (with_reducible repeat (first | apply Kd.R_alloc | apply Kd.R_drewN | apply Kd.R_drew)); exact HO_14.out⟩, ⟨by (try simp only [hl11_3]); (with_reducible repeat (first | apply Kd.R_alloc | apply Kd.R_drewN | apply Kd.R_drew)); exact HO_15.out⟩, ⟨by (try simp only [hl11_3]); (with_reducible repeat (first | apply Kd.R_alloc | apply Kd.R_drewN | apply Kd.R_drew)); exact HO_16.out⟩, ⟨by repeat (first | (with_reducible first | exact HB.out | apply below_alloc | apply pw_below_drewN | apply below_drew1) | exact HB.out)⟩⟩
                  ·rw [if_neg c37] at H
                   exact absurd H (by simp)
                 ·rw [if_neg c36] at H
                  exact absurd H (by simp)
                ·rw [if_neg c35] at H
                 have c35b0 : decide (x17_3 < a0) = false := decide_eq_false c35
                 clear c35
                 by_cases c69 : (x16_3.length : Int) > 1
                 ·rw [if_pos c69] at H
                  have c69b0 : decide (1 < (x16_3.length : Int)) = true := decide_eq_true c69
                  have c69b1 : decide (1 < x16_3.length) = true := decide_eq_true (by omega)
                  clear c69
                  by_cases c70 : x12_2.length < 5864062014805
                  ·rw [if_pos c70] at H
                   have LMc70 := Aside0.mk c70
                   clear c70
                   obtain ⟨y574, hy574⟩ : ∃ y_ : List (List Int), y_ = (x12_2 ++ [x16_3]) := ⟨_, rfl⟩
                   replace H : (tenetref02_Classes.l1 k3 a0 t542 t546 x9_1 x11_3 y574 (wrap64 (x13_2 + 1))) = some (r1, r2) := by first | (rw [hy574]; with_reducible exact H) | (have H2_ := (Option.bind_some _ _).symm.trans H; rw [hy574]; with_reducible exact H2_) | (have H2_ := (Option.bind_some _ _).symm.trans H; with_reducible exact H2_) | with_reducible exact H | (rw [hy574]; exact H) | exact H
                   have Ny574 := Aside0.mk hy574
                   clear hy574
                   have H' := Aside0.mk H
                   clear H
                   obtain ⟨Ao71, co71, eo71⟩ := Kd.R_slice HO_16.out
                   subst eo71
                   go_wp2_with (first | ((with_reducible refine gate_builtin (b := .append) (xs := #[.tmp 124, .tmp 126]) rfl ?_); at_builtin; refine Kd.S_append (Kd.slice 3 (Kd.int .i64)) (w0 := w) w.heap.size rfl (.tmp 124) (.tmp 126) 54 25 (.slice none 0 0) 24 rfl Try.underlying54 info25 rfl (by decide) (by omega) u12 x12_2 x16_3 [.slice Ao71 x16_3.length co71] (fun k_ => some k_ ≠ (.slice Ao31 t542.length co31 : Value).ownBlock) (fun k_ => some k_ = (.slice Ao71 x16_3.length co71 : Value).ownBlock) rfl rfl ?aP (fun k_ hk_ => ((Kd.R_mono (ok' := fun k_ => ((fun k_ => some k_ ≠ (.slice Ao31 t542.length co31 : Value).ownBlock)) k_ ∧ some k_ ≠ (u12 : Value).ownBlock) (Kd.R_apart' (HO_16.out) (Kd.S_typed HO_12.out) (by decide)) (fun k_ hk => ⟨hk.1, hk.2⟩))).1 k_ hk_.symm) ?aF ?aO ?aB ?aS ?aL ?_; (case aP => exact Kd.M_row (Kd.R_mono (Kd.R_tight rfl (Kd.R_mono (ok' := fun k_ => ((fun k_ => some k_ ≠ (.slice Ao31 t542.length co31 : Value).ownBlock)) k_ ∧ some k_ ≠ (u12 : Value).ownBlock) (Kd.R_apart' (HO_16.out) (Kd.S_typed HO_12.out) (by decide)) (fun k_ hk => ⟨hk.1, hk.2⟩))) (fun _ h_ => h_))); (case aB => exact (by repeat (first | (with_reducible first | exact HB.out | apply below_alloc | apply pw_below_drewN | apply below_drew1) | exact HB.out))); (case aF => exact (fun k_ hk => Kd.fresh' (Kd.R_lt (by (with_reducible repeat (first | apply Kd.R_alloc | apply Kd.R_drewN | apply Kd.R_drew)); exact HO_6.out)) k_ hk)); (case aO => exact (by (with_reducible repeat (first | apply Kd.S_alloc | apply Kd.S_drewN | apply Kd.S_drew)); exact Kd.S_mono HO_12.out (fun k_ hk => ⟨hk.1, fun e_ => hk.2 e_⟩))); (case aS => exact (below_size (by repeat (first | (with_reducible first | exact HB.out | apply below_alloc | apply pw_below_drewN | apply below_drew1) | exact HB.out)))); (case aL => have := LMc70.out; omega); intro v575 w72 ho hb hg hat; rw [← Ny574.out] at ho; have n0_ := Aside0.mk (Kd.R_over' (by (with_reducible repeat (first | apply Kd.R_alloc | apply Kd.R_drewN | apply Kd.R_drew)); exact HO_6.out) (Kd.S_typed (by (with_reducible repeat (first | apply Kd.S_alloc | apply Kd.S_drewN | apply Kd.S_drew)); exact HO_12.out)) (by decide) hg); have n1_ := Aside0.mk (Kd.R_over' (by (with_reducible repeat (first | apply Kd.R_alloc | apply Kd.R_drewN | apply Kd.R_drew)); exact HO_8.out) (Kd.S_typed (by (with_reducible repeat (first | apply Kd.S_alloc | apply Kd.S_drewN | apply Kd.S_drew)); exact HO_12.out)) (by decide) hg); have n2_ := Aside0.mk (Kd.R_over' (by (with_reducible repeat (first | apply Kd.R_alloc | apply Kd.R_drewN | apply Kd.R_drew)); exact HO_9.out) (Kd.S_typed (by (with_reducible repeat (first | apply Kd.S_alloc | apply Kd.S_drewN | apply Kd.S_drew)); exact HO_12.out)) (by decide) hg); have n3_ := Aside0.mk (Kd.R_over' (by (with_reducible repeat (first | apply Kd.R_alloc | apply Kd.R_drewN | apply Kd.R_drew)); exact HO_11.out) (Kd.S_typed (by (with_reducible repeat (first | apply Kd.S_alloc | apply Kd.S_drewN | apply Kd.S_drew)); exact HO_12.out)) (by decide) hg); have n4_ := Aside0.mk (Kd.R_over' (by (with_reducible repeat (first | apply Kd.R_alloc | apply Kd.R_drewN | apply Kd.R_drew)); exact HO_14.out) (Kd.S_typed (by (with_reducible repeat (first | apply Kd.S_alloc | apply Kd.S_drewN | apply Kd.S_drew)); exact HO_12.out)) (by decide) hg); have n5_ := Aside0.mk (Kd.R_over' (by (with_reducible repeat (first | apply Kd.R_alloc | apply Kd.R_drewN | apply Kd.R_drew)); exact HO_15.out) (Kd.S_typed (by (with_reducible repeat (first | apply Kd.S_alloc | apply Kd.S_drewN | apply Kd.S_drew)); exact HO_12.out)) (by decide) hg); have n6_ := Aside0.mk (hb); have n7_ := Aside0.mk (ho); clear HO_6; clear HO_8; clear HO_9; clear HO_11; clear HO_14; clear HO_15; clear HB; clear HO_12; clear HO_16; have HO_6 := n0_; have HO_8 := n1_; have HO_9 := n2_; have HO_11 := n3_; have HO_14 := n4_; have HO_15 := n5_; have HB := n6_; have HO576 := n7_; clear n0_ n1_ n2_ n3_ n4_ n5_ n6_ n7_; clear ho hb hg hat))
                   (try simp only [← hl11_3])
                   go_roundg k3
                   case measure => have := HK1.out; have := HK2.out; have := HK3.out; omega
                   case rel => exact ⟨(x11_3), (y574), (wrap64 (x13_2 + 1)), (by first | rfl | (simp; done) | (simp [*]; done)), H', ⟨by have := HK1.out; have := HK2.out; have := HK3.out; omega⟩, ⟨by (try simp only [hl11_3]); (with_reducible repeat (first | apply Kd.R_alloc | apply Kd.R_drewN | apply Kd.R_drew)); exact Kd.R_mono HO_6.out (fun _ hk => trivial)⟩, ⟨by (try simp only [hl11_3]); (with_reducible repeat (first | apply Kd.R_alloc | apply Kd.R_drewN | apply Kd.R_drew)); exact HO_8.out⟩, ⟨by (try simp only [hl11_3]); (with_reducible repeat (first | apply Kd.R_alloc | apply Kd.R_drewN | apply Kd.R_drew)); exact HO_9.out⟩, ⟨by (try simp only [hl11_3]); (with_reducible repeat (first | apply Kd.R_alloc | apply Kd.R_drewN | apply Kd.R_drew)); exact Kd.R_mono HO_11.out (fun _ hk => trivial)⟩, ⟨by (try simp only [hl11_3]); (with_reducible repeat (first | apply Kd.S_alloc | apply Kd.S_drewN | apply Kd.S_drew)); exact HO576.out⟩, ⟨by repeat (first | (with_reducible first | exact HB.out | apply below_alloc | apply pw_below_drewN | apply below_drew1) | exact HB.out)⟩⟩
                  ·rw [if_neg c70] at H
                   exact absurd H (by simp)
                 ·rw [if_neg c69] at H
                  have c69b0 : decide (1 < (x16_3.length : Int)) = false := decide_eq_false c69
                  have c69b1 : decide (1 < x16_3.length) = false := decide_eq_false (by omega)
                  clear c69
                  have H' := Aside0.mk H
                  clear H
                  obtain ⟨Ao73, co73, eo73⟩ := Kd.R_slice HO_16.out
                  subst eo73
                  go_wp2
                  (try simp only [← hl11_3])
                  go_roundg k3
                  case measure => have := HK1.out; have := HK2.out; have := HK3.out; omega
                  case rel => exact ⟨(x11_3), (x12_2), (wrap64 (x13_2 + 1)), (by first | rfl | (simp; done) | (simp [*]; done)), H', ⟨by have := HK1.out; have := HK2.out; have := HK3.out; omega⟩, ⟨by (try simp only [hl11_3]); (with_reducible repeat (first | apply Kd.R_alloc | apply Kd.R_drewN | apply Kd.R_drew)); exact Kd.R_mono HO_6.out (fun _ hk => trivial)⟩, ⟨by (try simp only [hl11_3]); (with_reducible repeat (first | apply Kd.R_alloc | apply Kd.R_drewN | apply Kd.R_drew)); exact HO_8.out⟩, ⟨by (try simp only [hl11_3]); (with_reducible repeat (first | apply Kd.R_alloc | apply Kd.R_drewN | apply Kd.R_drew)); exact HO_9.out⟩, ⟨by (try simp only [hl11_3]); (with_reducible repeat (first | apply Kd.R_alloc | apply Kd.R_drewN | apply Kd.R_drew)); exact Kd.R_mono HO_11.out (fun _ hk => trivial)⟩, ⟨by (try simp only [hl11_3]); (with_reducible repeat (first | apply Kd.S_alloc | apply Kd.S_drewN | apply Kd.S_drew)); exact Kd.S_mono HO_12.out (fun _ hk => hk.1)⟩, ⟨by repeat (first | (with_reducible first | exact HB.out | apply below_alloc | apply pw_below_drewN | apply below_drew1) | exact HB.out)⟩⟩
            ·rw [if_neg c24] at H
             exact absurd H (by simp)
           ·rw [if_neg c23] at H
            exact absurd H (by simp)
          ·rw [if_neg c22] at H
           have c22b0 : decide (x13_2 < a0) = false := decide_eq_false c22
           clear c22
           simp only [Option.some.injEq, Prod.mk.injEq] at H
           obtain ⟨rfl, rfl⟩ := H
           go_wp2
           go_ret2
           exact ⟨_, by first | rfl | (simp [errW_none, errW_some] <;> rfl) | (simp [*, errW_none, errW_some] <;> rfl), by (with_reducible repeat (first | apply Kd.S_alloc | apply Kd.S_drewN | apply Kd.S_drew)); exact Kd.S_mono HO_12.out (fun _ hk => trivial), by repeat (first | (with_reducible first | exact HB.out | apply below_alloc | apply pw_below_drewN | apply below_drew1) | exact HB.out)⟩
       ·rw [if_neg c18] at H
        exact absurd H (by simp)
      ·rw [if_neg c17] at H
       exact absurd H (by simp)
  ·replace c6 := Bool.eq_false_iff.mpr c6
   subst c6
   have H1 : (some (([] : List (List Int)), 20)) = some (r1, r2) := by rw [if_neg (show ¬ (false = true) by decide)] at H; exact H
   clear H
   have H := H1
   clear H1
   simp only [Option.some.injEq, Prod.mk.injEq] at H
   obtain ⟨rfl, rfl⟩ := H
   go_enter Try.func39, Try.ntmps39
   go_wp2_with (first | ((with_reducible refine gate_callee (f := 25) rfl ?_); refine goesL_ (some 20) rfl rfl Try.func25 (by kernel_rfl) rfl #[.int .i64 a0, .slice A1 l1.length c1] rfl (by (try simp only [List.map_toArray, List.map_cons, List.map_nil]); first | done | rfl | (simp only [List.length_drop, List.length_take]; rfl)) ?_; (with_reducible refine (tenetref02_Valid.calls k a0 _ _ l1 true _ ?side1 ?side2 A3.out).mono ?_); (case side1 => repeat (first | exact HR1.out | (with_reducible refine Kd.C_alloc ?_ _) | (with_reducible refine Kd.C_drewN ?_ _) | (with_reducible refine Kd.C_drew ?_))); (case side2 => exact HC1.out); rintro e w74 ⟨rfl, hb⟩; refine ⟨_, rfl, ?_⟩; have n0_ := Aside0.mk (below_step (by repeat (first | (with_reducible first | exact HB.out | apply below_alloc | apply pw_below_drewN | apply below_drew1) | exact HB.out)) hb); clear HB; have HB := n0_; clear n0_; (try clear hb); (try clear hb2); (try clear hk); (try clear hi)) | ((with_reducible refine gate_callee (f := 50) rfl ?_); refine goesL_ (some 25) rfl rfl Try.func50 (by kernel_rfl) rfl #[.int .i64 a0, .slice A1 l1.length c1] rfl (by (try simp only [List.map_toArray, List.map_cons, List.map_nil]); first | done | rfl | (simp only [List.length_drop, List.length_take]; rfl)) ?_; (with_reducible refine (tenetref02_solve.calls k a0 _ _ l1 t542 false _ ?side1 ?side2 A5.out).mono ?_); (case side1 => repeat (first | exact (Kd.C_below HR1.out HB.out) | (with_reducible refine Kd.C_alloc ?_ _) | (with_reducible refine Kd.C_drewN ?_ _) | (with_reducible refine Kd.C_drew ?_))); (case side2 => exact HC1.out); rintro e w75 ⟨v544, rfl, ho0, hb⟩; refine ⟨_, rfl, ?_⟩; have n0_ := Aside0.mk (Kd.R_lower ho0 (below_size (by repeat (first | (with_reducible first | exact HB.out | apply below_alloc | apply pw_below_drewN | apply below_drew1) | exact HB.out)))); have n1_ := Aside0.mk (below_step (by repeat (first | (with_reducible first | exact HB.out | apply below_alloc | apply pw_below_drewN | apply below_drew1) | exact HB.out)) hb); clear HB; have HO545 := n0_; have HB := n1_; clear n0_ n1_; (try clear hb); (try clear hb2); (try clear hk); (try clear hi); (try clear ho0)))
   go_ret2
   exact ⟨_, by first | rfl | (simp [errW_none, errW_some] <;> rfl) | (simp [*, errW_none, errW_some] <;> rfl), by first | exact Kd.S_nil _ _ _ _ _ | exact Kd.N_nil _ _ _ _ _ | exact Kd.V_nil _ _ _ _ _ | exact Kd.Q_nil _ _ _ _ _ | exact Kd.R_nil _ _ _ _ _, by repeat (first | (with_reducible first | exact HB.out | apply below_alloc | apply pw_below_drewN | apply below_drew1) | exact HB.out)⟩
 ·replace c4 := Bool.eq_false_iff.mpr c4
  subst c4
  have H1 : (some (([] : List (List Int)), 4)) = some (r1, r2) := by rw [if_neg (show ¬ (false = true) by decide)] at H; exact H
  clear H
  have H := H1
  clear H1
  simp only [Option.some.injEq, Prod.mk.injEq] at H
  obtain ⟨rfl, rfl⟩ := H
  go_enter Try.func39, Try.ntmps39
  go_wp2_with (first | ((with_reducible refine gate_callee (f := 25) rfl ?_); refine goesL_ (some 20) rfl rfl Try.func25 (by kernel_rfl) rfl #[.int .i64 a0, .slice A1 l1.length c1] rfl (by (try simp only [List.map_toArray, List.map_cons, List.map_nil]); first | done | rfl | (simp only [List.length_drop, List.length_take]; rfl)) ?_; (with_reducible refine (tenetref02_Valid.calls k a0 _ _ l1 false _ ?side1 ?side2 A3.out).mono ?_); (case side1 => repeat (first | exact HR1.out | (with_reducible refine Kd.C_alloc ?_ _) | (with_reducible refine Kd.C_drewN ?_ _) | (with_reducible refine Kd.C_drew ?_))); (case side2 => exact HC1.out); rintro e w76 ⟨rfl, hb⟩; refine ⟨_, rfl, ?_⟩; have n0_ := Aside0.mk (below_step (by repeat (first | (with_reducible first | exact HB.out | apply below_alloc | apply pw_below_drewN | apply below_drew1) | exact HB.out)) hb); clear HB; have HB := n0_; clear n0_; (try clear hb); (try clear hb2); (try clear hk); (try clear hi)))
  go_ret2
  exact ⟨_, by first | rfl | (simp [errW_none, errW_some] <;> rfl) | (simp [*, errW_none, errW_some] <;> rfl), by first | exact Kd.S_nil _ _ _ _ _ | exact Kd.N_nil _ _ _ _ _ | exact Kd.V_nil _ _ _ _ _ | exact Kd.Q_nil _ _ _ _ _ | exact Kd.R_nil _ _ _ _ _, by repeat (first | (with_reducible first | exact HB.out | apply below_alloc | apply pw_below_drewN | apply below_drew1) | exact HB.out)⟩
end Go.Proofs.Ytegejpcglabhbaa.G
