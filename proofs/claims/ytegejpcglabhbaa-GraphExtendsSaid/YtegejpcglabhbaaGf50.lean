-- Made by a program of this claim's author out of the translation (a patched run of the kit's print).
import Derived.Test.YtegejpcglabhbaaG0
import Derived.Test.YtegejpcglabhbaaGf64
import Derived.Test.YtegejpcglabhbaaGHl
namespace Go.Proofs.Ytegejpcglabhbaa.G
open Go.RowKit Go.Proofs.YtegejpcglabhbaaW.PrintWords Go.Proofs.YtegejpcglabhbaaW.PrintLast Go.Proofs.YtegejpcglabhbaaW.PrintMore
attribute [local go_sem] max2_int min2_int max_two min_two max_three min_three max_four min_four   -- for this text's walks alone
set_option linter.unusedVariables false
set_option linter.unusedSimpArgs false

/-! ### tenetref02_solve: function 50 -/
mutual
def tenetref02_solve.j0 : Nat → Int → List (S94) → Bool → Option (List Int × Bool)
  | 0, _, _, _ => none
  | k + 1, x0, x6, x28 => if x28 = true then (some (([] : List Int), false)) else (if 0 ≤ x0 then (if (x0 : Int).toNat ≤ 35184372088832 then (tenetref02_solve.l0 k x0 x6 (List.replicate (x0 : Int).toNat 0) 0) else (none)) else (none))
def tenetref02_solve.l0 : Nat → Int → List (S94) → List Int → Int → Option (List Int × Bool)
  | 0, _, _, _, _ => none
  | k + 1, x0, x6, x8, x9 => if x9 < x0 then (if 0 ≤ x9 then (if x9 < (x6.length : Int) then (if x9 < (x8.length : Int) then (tenetref02_solve.l0 k x0 x6 (x8.set (x9 : Int).toNat ((rd_T94 x6 x9).f1)) (wrap64 (x9 + 1))) else (none)) else (none)) else (none)) else (some (x8, true))
end
def tenetref02_solve.f (k : Nat) (a0 : Int) (l1 : List (S44)) : Option (List Int × Bool) := (tenetref02_edges.f k a0 l1).bind fun t229 => ((tenetref02_longest.f k a0 t229 a0).bind fun bt232 => (if bt232.2 = true then (if 0 ≤ a0 then (if a0 < (bt232.1.length : Int) then (tenetref02_solve.j0 k a0 bt232.1 (decide (((rd_T94 bt232.1 a0).f1) > 0))) else (none)) else (none)) else (tenetref02_solve.j0 k a0 bt232.1 true)))
theorem tenetref02_solve.mono_l : ∀ k, (∀ y0 y1 y2, LeO (tenetref02_solve.j0 k y0 y1 y2) (tenetref02_solve.j0 (k + 1) y0 y1 y2)) ∧ (∀ y0 y1 y2 y3, LeO (tenetref02_solve.l0 k y0 y1 y2 y3) (tenetref02_solve.l0 (k + 1) y0 y1 y2 y3))
  | 0 => ⟨fun _ _ _ r h => by simp [tenetref02_solve.j0] at h, fun _ _ _ _ r h => by simp [tenetref02_solve.l0] at h⟩
  | k + 1 => by
    obtain ⟨ih0, ih1⟩ := tenetref02_solve.mono_l k
    refine ⟨?_, ?_⟩
    · intro y0 y1 y2
      unfold tenetref02_solve.j0
      repeat' first
      | (with_reducible exact ih0 _ _ _)
      | (with_reducible exact ih1 _ _ _ _)
      | (with_reducible exact tenetref02_edges.mono _ _ _)
      | (with_reducible exact tenetref02_longest.mono _ _ _ _)
      | (with_reducible exact LeO.refl _)
      | (with_reducible exact LeO.none _)
      | (with_reducible refine LeO.ite ?_ ?_)
      | (with_reducible refine LeO.bind ?_ (fun _ => ?_))
      | exact ih0 _ _ _
      | exact ih1 _ _ _ _
      | exact tenetref02_edges.mono _ _ _
      | exact tenetref02_longest.mono _ _ _ _
      | exact LeO.none _
      | refine LeO.ite ?_ ?_
      | refine LeO.bind ?_ (fun _ => ?_)
    · intro y0 y1 y2 y3
      unfold tenetref02_solve.l0
      repeat' first
      | (with_reducible exact ih0 _ _ _)
      | (with_reducible exact ih1 _ _ _ _)
      | (with_reducible exact tenetref02_edges.mono _ _ _)
      | (with_reducible exact tenetref02_longest.mono _ _ _ _)
      | (with_reducible exact LeO.refl _)
      | (with_reducible exact LeO.none _)
      | (with_reducible refine LeO.ite ?_ ?_)
      | (with_reducible refine LeO.bind ?_ (fun _ => ?_))
      | exact ih0 _ _ _
      | exact ih1 _ _ _ _
      | exact tenetref02_edges.mono _ _ _
      | exact tenetref02_longest.mono _ _ _ _
      | exact LeO.none _
      | refine LeO.ite ?_ ?_
      | refine LeO.bind ?_ (fun _ => ?_)
theorem tenetref02_solve.mono : ∀ a0 a1 k, LeO (tenetref02_solve.f k a0 a1) (tenetref02_solve.f (k + 1) a0 a1) := by
  intro a0 a1 k
  obtain ⟨ih0, ih1⟩ := tenetref02_solve.mono_l k
  unfold tenetref02_solve.f
  repeat' first
      | (with_reducible exact ih0 _ _ _)
      | (with_reducible exact ih1 _ _ _ _)
      | (with_reducible exact tenetref02_edges.mono _ _ _)
      | (with_reducible exact tenetref02_longest.mono _ _ _ _)
      | (with_reducible exact LeO.refl _)
      | (with_reducible exact LeO.none _)
      | (with_reducible refine LeO.ite ?_ ?_)
      | (with_reducible refine LeO.bind ?_ (fun _ => ?_))
      | exact ih0 _ _ _
      | exact ih1 _ _ _ _
      | exact tenetref02_edges.mono _ _ _
      | exact tenetref02_longest.mono _ _ _ _
      | exact LeO.none _
      | refine LeO.ite ?_ ?_
      | refine LeO.bind ?_ (fun _ => ?_)
set_option maxHeartbeats 8000000 in
set_option maxRecDepth 100000 in
theorem tenetref02_solve.calls (k : Nat) (a0 : Int) (A1 : Option Addr) (c1 : Nat) (l1 : List (S44)) (r1 : List Int) (r2 : Bool) (w : World) (hr1 : Kd.C k44 w A1 l1.length l1) (hc1 : l1.length ≤ c1) (h : tenetref02_solve.f k a0 l1 = some (r1, r2)) :
    Calls Try.prog 50 #[.int .i64 a0, .slice A1 l1.length c1] w fun e w' => ∃ v0_ : Value, e = .returned (.tuple #[v0_, .bool r2]) ∧ Kd.R (Kd.int .i64) 3 w' w.heap.size (fun _ => True) v0_ r1 ∧ Below w.heap.size w w' := by
  have HR1 := Aside0.mk hr1
  have HC1 := Aside0.mk hc1
  clear hr1 hc1
  have HB := Aside0.mk (Below.refl w.heap.size w)
  have H : ((tenetref02_edges.f k a0 l1).bind fun t229 => ((tenetref02_longest.f k a0 t229 a0).bind fun bt232 => (if bt232.2 = true then (if 0 ≤ a0 then (if a0 < (bt232.1.length : Int) then (tenetref02_solve.j0 k a0 bt232.1 (decide (((rd_T94 bt232.1 a0).f1) > 0))) else (none)) else (none)) else (tenetref02_solve.j0 k a0 bt232.1 true)))) = some (r1, r2) := h
  clear h
  replace H := Option.bind_eq_some_iff.mp H
  obtain ⟨t229, A30, H⟩ := H
  replace H : ((tenetref02_longest.f k a0 t229 a0).bind fun bt232 => (if bt232.2 = true then (if 0 ≤ a0 then (if a0 < (bt232.1.length : Int) then (tenetref02_solve.j0 k a0 bt232.1 (decide (((rd_T94 bt232.1 a0).f1) > 0))) else (none)) else (none)) else (tenetref02_solve.j0 k a0 bt232.1 true))) = some (r1, r2) := H
  have A3 := Aside0.mk A30
  clear A30
  replace H := Option.bind_eq_some_iff.mp H
  obtain ⟨⟨t232, t233⟩, A40, H⟩ := H
  replace H : (if t233 = true then (if 0 ≤ a0 then (if a0 < (t232.length : Int) then (tenetref02_solve.j0 k a0 t232 (decide (((rd_T94 t232 a0).f1) > 0))) else (none)) else (none)) else (tenetref02_solve.j0 k a0 t232 true)) = some (r1, r2) := H
  have A4 := Aside0.mk A40
  clear A40
  have HC5 := Aside0.mk H
  clear H
  go_enter Try.func50, Try.ntmps50
  go_upto_region 2 with (first | ((with_reducible refine gate_callee (f := 64) rfl ?_); refine goesL_ (some 14) rfl rfl Try.func64 (by kernel_rfl) rfl #[.int .i64 a0, .slice A1 l1.length c1] rfl (by (try simp only [List.map_toArray, List.map_cons, List.map_nil]); first | done | rfl | (simp only [List.length_drop, List.length_take]; rfl)) ?_; (with_reducible refine (tenetref02_edges.calls k a0 _ _ l1 t229 _ ?side1 ?side2 A3.out).mono ?_); (case side1 => repeat (first | exact HR1.out | (with_reducible refine Kd.C_alloc ?_ _) | (with_reducible refine Kd.C_drewN ?_ _) | (with_reducible refine Kd.C_drew ?_))); (case side2 => exact HC1.out); rintro e w6 ⟨v230, rfl, ho0, hb⟩; refine ⟨_, rfl, ?_⟩; have n0_ := Aside0.mk (Kd.R_lower ho0 (below_size (by repeat (first | (with_reducible first | exact HB.out | apply below_alloc | apply pw_below_drewN | apply below_drew1) | exact HB.out)))); have n1_ := Aside0.mk (below_step (by repeat (first | (with_reducible first | exact HB.out | apply below_alloc | apply pw_below_drewN | apply below_drew1) | exact HB.out)) hb); clear HB; have HO231 := n0_; have HB := n1_; clear n0_ n1_; (try clear hb); (try clear hb2); (try clear hk); (try clear hi); (try clear ho0); obtain ⟨Ao7, co7, eo7⟩ := Kd.R_slice HO231.out; subst eo7) | ((with_reducible refine gate_callee (f := 63) rfl ?_); refine goesL_ (some 16) rfl rfl Try.func63 (by kernel_rfl) rfl #[.int .i64 a0, .slice Ao7 t229.length co7, .int .i64 a0] rfl (by (try simp only [List.map_toArray, List.map_cons, List.map_nil]); first | done | rfl | (simp only [List.length_drop, List.length_take]; rfl)) ?_; (with_reducible refine (tenetref02_longest.calls k a0 _ _ t229 a0 t232 t233 _ ?side1 ?side2 A4.out).mono ?_); (case side1 => repeat (first | exact (Kd.R_reads' HO231.out).2.2 | (with_reducible refine Kd.C_alloc ?_ _) | (with_reducible refine Kd.C_drewN ?_ _) | (with_reducible refine Kd.C_drew ?_))); (case side2 => exact (Kd.R_reads' HO231.out).2.1); rintro e w8 ⟨v234, rfl, ho0, hb⟩; refine ⟨_, rfl, ?_⟩; have n0_ := Aside0.mk (Kd.R_below (by (with_reducible repeat (first | apply Kd.R_alloc | apply Kd.R_drewN | apply Kd.R_drew)); exact HO231.out) hb); have n1_ := Aside0.mk (Kd.R_lower ho0 (below_size (by repeat (first | (with_reducible first | exact HB.out | apply below_alloc | apply pw_below_drewN | apply below_drew1) | exact HB.out)))); have n2_ := Aside0.mk (below_step (by repeat (first | (with_reducible first | exact HB.out | apply below_alloc | apply pw_below_drewN | apply below_drew1) | exact HB.out)) hb); clear HO231; clear HB; have HO231 := n0_; have HO235 := n1_; have HB := n2_; clear n0_ n1_ n2_; (try clear hb); (try clear hb2); (try clear hk); (try clear hi); (try clear ho0)))
  (try simp only [Act.put, List.setIfInBounds_toArray, List.set_cons_zero, List.set_cons_succ])
  go_cut [28] (fun v28 wc => ∃ (kq : Nat) (x28_4 : Bool), v28 = .bool x28_4 ∧ Aside0 (tenetref02_solve.j0 kq a0 t232 x28_4 = some (r1, r2)) ∧ Aside0 (kq ≤ k) ∧ Aside0 (Kd.R k94 94 wc w.heap.size (fun _ => True) v234 t232) ∧ Aside0 (Below w.heap.size w wc))
  case first =>
    have H := HC5.out
    clear HC5
    by_cases c9 : t233 = true
    · subst c9
      have H1 : (if 0 ≤ a0 then (if a0 < (t232.length : Int) then (tenetref02_solve.j0 k a0 t232 (decide (((rd_T94 t232 a0).f1) > 0))) else (none)) else (none)) = some (r1, r2) := by rw [if_pos rfl] at H; exact H
      clear H
      have H := H1
      clear H1
      by_cases c10 : 0 ≤ a0
      · rw [if_pos c10] at H
        have c10b0 : decide (0 ≤ a0) = true := decide_eq_true c10
        clear c10
        (first | rw [c10b0] | (simp only [i64_w, i32_w]; rw [c10b0]) | skip)
        by_cases c11 : a0 < (t232.length : Int)
        · rw [if_pos c11] at H
          have c11b0 : decide (a0 < (t232.length : Int)) = true := decide_eq_true c11
          clear c11
          have H' := Aside0.mk H
          clear H
          obtain ⟨Ao12, co12, eo12⟩ := Kd.R_slice HO235.out
          subst eo12
          have p236 : 0 ≤ (a0 : Int) := of_decide_eq_true (by first | (with_reducible assumption) | assumption)
          have q236 : a0 < (t232.length : Int) := of_decide_eq_true (by first | (with_reducible assumption) | assumption)
          obtain ⟨ad236, e236, hx236_0, hx236_1⟩ := at_T94 (Kd.R_reads' HO235.out).2.2 a0 p236 q236
          cases e236
          replace p236 := eq_true p236
          replace q236 := eq_true q236
          go_wp2
          go_meet
          case rel => exact ⟨_, (decide (((rd_T94 t232 a0).f1) > 0)), (by first | rfl | (simp; done) | (simp [*]; done)), H', ⟨by first | omega | exact Nat.le_refl _⟩, ⟨by (with_reducible repeat (first | apply Kd.R_alloc | apply Kd.R_drewN | apply Kd.R_drew)); exact HO235.out⟩, ⟨by repeat (first | (with_reducible first | exact HB.out | apply below_alloc | apply pw_below_drewN | apply below_drew1) | exact HB.out)⟩⟩
        · rw [if_neg c11] at H
          exact absurd H (by simp)
      · rw [if_neg c10] at H
        exact absurd H (by simp)
    · replace c9 := Bool.eq_false_iff.mpr c9
      subst c9
      have H1 : (tenetref02_solve.j0 k a0 t232 true) = some (r1, r2) := by rw [if_neg (show ¬ (false = true) by decide)] at H; exact H
      clear H
      have H := H1
      clear H1
      have H' := Aside0.mk H
      clear H
      go_wp2
      go_meet
      case rel => exact ⟨_, (true), (by first | rfl | (simp; done) | (simp [*]; done)), H', ⟨by first | omega | exact Nat.le_refl _⟩, ⟨by (with_reducible repeat (first | apply Kd.R_alloc | apply Kd.R_drewN | apply Kd.R_drew)); exact HO235.out⟩, ⟨by repeat (first | (with_reducible first | exact HB.out | apply below_alloc | apply pw_below_drewN | apply below_drew1) | exact HB.out)⟩⟩
  case rest =>
    clear HC5
    try clear c1
    try clear p2
    try clear q2
    try clear hx2
    try clear c5
    try clear c6
    try clear c9
    try clear c10
    try clear c10b0
    try clear c11
    try clear c11b0
    try clear hx236_0
    try clear hx236_1
    try clear p236
    try clear q236
    obtain ⟨kq, x28_4, rfl, HA, HJ4, HO_6, HB⟩ := hcut
    cases kq with
    | zero => exact absurd HA.out (by simp [tenetref02_solve.j0])
    | succ kj4 =>
      have H := HA.out
      clear HA
      simp only [tenetref02_solve.j0] at H
      by_cases c13 : x28_4 = true
      · subst c13
        have H1 : (some (([] : List Int), false)) = some (r1, r2) := by rw [if_pos rfl] at H; exact H
        clear H
        have H := H1
        clear H1
        simp only [Option.some.injEq, Prod.mk.injEq] at H
        obtain ⟨rfl, rfl⟩ := H
        go_wp2
        go_ret2
        exact ⟨_, by first | rfl | (simp [errW_none, errW_some] <;> rfl) | (simp [*, errW_none, errW_some] <;> rfl), by first | exact Kd.R_nil _ _ _ _ _ | exact Kd.N_nil _ _ _ _ _ | exact Kd.V_nil _ _ _ _ _ | exact Kd.Q_nil _ _ _ _ _ | exact Kd.S_nil _ _ _ _ _, by repeat (first | (with_reducible first | exact HB.out | apply below_alloc | apply pw_below_drewN | apply below_drew1) | exact HB.out)⟩
      · replace c13 := Bool.eq_false_iff.mpr c13
        subst c13
        have H1 : (if 0 ≤ a0 then (if (a0 : Int).toNat ≤ 35184372088832 then (tenetref02_solve.l0 kj4 a0 t232 (List.replicate (a0 : Int).toNat 0) 0) else (none)) else (none)) = some (r1, r2) := by rw [if_neg (show ¬ (false = true) by decide)] at H; exact H
        clear H
        have H := H1
        clear H1
        by_cases c14 : 0 ≤ a0
        · rw [if_pos c14] at H
          have c14b0 := eq_true c14
          have c14b1 : decide (0 ≤ a0) = true := decide_eq_true c14
          clear c14
          by_cases c15 : (a0 : Int).toNat ≤ 35184372088832
          · rw [if_pos c15] at H
            have c15b0 := eq_true c15
            have c15b1 : decide ((a0 : Int).toNat ≤ 35184372088832) = true := decide_eq_true c15
            clear c15
            obtain ⟨y237, hy237⟩ : ∃ y_ : List Int, y_ = (List.replicate (a0 : Int).toNat 0) := ⟨_, rfl⟩
            replace H : (tenetref02_solve.l0 kj4 a0 t232 y237 0) = some (r1, r2) := by first | (rw [hy237]; with_reducible exact H) | (have H2_ := (Option.bind_some _ _).symm.trans H; rw [hy237]; with_reducible exact H2_) | (have H2_ := (Option.bind_some _ _).symm.trans H; with_reducible exact H2_) | with_reducible exact H | (rw [hy237]; exact H) | exact H
            have Ny237 := Aside0.mk hy237
            clear hy237
            have H' := Aside0.mk H
            clear H
            go_wp2_with (first | ((with_reducible refine gate_dst (N := 30) rfl ?_); refine Kd.R_make (Kd.int .i64) _ 3 rfl (N := 30) rfl 25 _ _ rfl a0 rfl rfl Try.underlying25 (.int .i64 0) 8 info3 rfl (by decide) (by omega) 0 (ok := fun _ => True) (okp := fun _ => True) rfl (fun _ hk => hk) trivial (of_decide_eq_true (by first | (with_reducible assumption) | assumption)) (Nat.le_trans (Nat.mul_le_mul_right _ (of_decide_eq_true (by first | (with_reducible assumption) | assumption) : a0.toNat ≤ 35184372088832)) (by omega)) (Below.refl _ _) (Nat.le_refl _) ?_; intro v238 w16 ho17 hb hg_ hnew_; clear hg_ hnew_; (first | rw [← Ny237.out] at ho17 | (simp only [Int.reduceToNat] at ho17; rw [← Ny237.out] at ho17)); have n0_ := Aside0.mk (Kd.R_below (by (with_reducible repeat (first | apply Kd.R_alloc | apply Kd.R_drewN | apply Kd.R_drew)); exact HO_6.out) hb); have n1_ := Aside0.mk (Kd.R_lower ho17 (below_size (by repeat (first | (with_reducible first | exact HB.out | apply below_alloc | apply pw_below_drewN | apply below_drew1) | exact HB.out)))); have n2_ := Aside0.mk (below_step (by repeat (first | (with_reducible first | exact HB.out | apply below_alloc | apply pw_below_drewN | apply below_drew1) | exact HB.out)) hb); clear HO_6; clear HB; have HO_6 := n0_; have HO239 := n1_; have HB := n2_; clear n0_ n1_ n2_; clear hb ho17))
            go_loopg [9] kj4 (fun kq v9 w' => ∃ (x8_2 : List Int) (x9_2 : Int), v9 = .int .i64 x9_2 ∧ Aside0 (tenetref02_solve.l0 kq a0 t232 x8_2 x9_2 = some (r1, r2)) ∧ Aside0 (kq ≤ kj4) ∧ Aside0 (Kd.R k94 94 w' w.heap.size (fun _ => True) v234 t232) ∧ Aside0 (Kd.R (Kd.int .i64) 3 w' w.heap.size (fun _ => True) v238 x8_2) ∧ Aside0 (Below w.heap.size w w'))
            case atStart => exact ⟨(y237), (0), (by first | rfl | (simp; done) | (simp [*]; done)), H', ⟨Nat.le_refl _⟩, ⟨by (with_reducible repeat (first | apply Kd.R_alloc | apply Kd.R_drewN | apply Kd.R_drew)); exact HO_6.out⟩, ⟨by (with_reducible repeat (first | apply Kd.R_alloc | apply Kd.R_drewN | apply Kd.R_drew)); exact HO239.out⟩, ⟨by repeat (first | (with_reducible first | exact HB.out | apply below_alloc | apply pw_below_drewN | apply below_drew1) | exact HB.out)⟩⟩
            case round =>
              clear H'
              try clear c1
              try clear p2
              try clear q2
              try clear hx2
              try clear c5
              try clear c6
              try clear c9
              try clear c10
              try clear c10b0
              try clear c11
              try clear c11b0
              try clear c13
              try clear c14
              try clear c14b0
              try clear c14b1
              try clear c15
              try clear c15b0
              try clear c15b1
              try clear hx236_0
              try clear hx236_1
              try clear p2
              try clear p236
              try clear q2
              try clear q236
              obtain ⟨x8_2, x9_2, rfl, HA, HK2, HO_6, HO_8, HB⟩ := hrel
              cases gk with
              | zero => exact absurd HA.out (by simp [tenetref02_solve.l0])
              | succ k2 =>
                have H := HA.out
                clear HA
                simp only [tenetref02_solve.l0] at H
                by_cases c18 : x9_2 < a0
                · rw [if_pos c18] at H
                  have c18b0 : decide (x9_2 < a0) = true := decide_eq_true c18
                  clear c18
                  by_cases c19 : 0 ≤ x9_2
                  · rw [if_pos c19] at H
                    have c19b0 : decide (0 ≤ x9_2) = true := decide_eq_true c19
                    clear c19
                    by_cases c20 : x9_2 < (t232.length : Int)
                    · rw [if_pos c20] at H
                      have c20b0 : decide (x9_2 < (t232.length : Int)) = true := decide_eq_true c20
                      clear c20
                      by_cases c21 : x9_2 < (x8_2.length : Int)
                      · rw [if_pos c21] at H
                        have c21b0 : decide (x9_2 < (x8_2.length : Int)) = true := decide_eq_true c21
                        clear c21
                        obtain ⟨y241, hy241⟩ : ∃ y_ : List Int, y_ = (x8_2.set (x9_2 : Int).toNat ((rd_T94 t232 x9_2).f1)) := ⟨_, rfl⟩
                        replace H : (tenetref02_solve.l0 k2 a0 t232 y241 (wrap64 (x9_2 + 1))) = some (r1, r2) := by first | (rw [hy241]; with_reducible exact H) | (have H2_ := (Option.bind_some _ _).symm.trans H; rw [hy241]; with_reducible exact H2_) | (have H2_ := (Option.bind_some _ _).symm.trans H; with_reducible exact H2_) | with_reducible exact H | (rw [hy241]; exact H) | exact H
                        have Ny241 := Aside0.mk hy241
                        clear hy241
                        have H' := Aside0.mk H
                        clear H
                        obtain ⟨Ao23, co23, eo23⟩ := Kd.R_slice HO_6.out
                        subst eo23
                        have p240 : 0 ≤ (x9_2 : Int) := of_decide_eq_true (by first | (with_reducible assumption) | assumption)
                        have q240 : x9_2 < (t232.length : Int) := of_decide_eq_true (by first | (with_reducible assumption) | assumption)
                        obtain ⟨ad240, e240, hx240_0, hx240_1⟩ := at_T94 (Kd.R_reads' HO_6.out).2.2 x9_2 p240 q240
                        cases e240
                        replace p240 := eq_true p240
                        replace q240 := eq_true q240
                        have p22 : 0 ≤ (x9_2 : Int) := of_decide_eq_true (by first | (with_reducible assumption) | assumption)
                        have q22 : (x9_2 : Int) < ((x8_2.length : Int) : Int) := of_decide_eq_true (by first | (with_reducible assumption) | assumption)
                        obtain ⟨go22, co22, eo22, gb22, gl22, cl22, HG22⟩ := Kd.R_form HO_8.out (by omega)
                        (first | cases eo22 | (injection eo22 with ea_ en_ ec_; (first | subst ea_ | (injection ea_ with ea_; subst ea_)); subst ec_; clear en_))
                        have GB22 := Aside0.mk gb22
                        have GG22 := Aside0.mk HG22
                        clear gb22 gl22 HG22
                        obtain ⟨hx22_0, hf22_0⟩ := Kd.R_celln 0 HO_8.out (x9_2 : Int) p22 q22
                        replace p22 := eq_true p22
                        replace q22 := eq_true q22
                        have HP24 := Kd.R_putg HO_8.out (x9_2 : Int) ((rd_T94 t232 x9_2).f1)
                        go_wp2_with (first | ((with_reducible refine gate_store (t := 3) (p := 43) rfl ?_); refine store_event (t := 3) (p := 43) (v := ?vo_w25) (w1 := (wr.setCell ⟨go22, (x9_2 : Int).toNat, none⟩ (.int .i64 ((rd_T94 t232 x9_2).f1)))) ?hg ?ho ?hn ?hr ?_; (case ho => rfl); (case hg => rfl); (case hn => rfl); (case hr => first | (go_simp; done) | (go_simp; rfl)); intro w25 hw; have hg : wr.grownBy w25 (some go22) := (by rw [hw]; exact HP24.2); have hp_ : Kd.R (Kd.int .i64) 3 w25 w.heap.size (fun _ => True) (.slice (some ⟨go22, 0, none⟩) x8_2.length co22) y241 := (by rw [hw, Ny241.out]; exact HP24.1); clear HP24; have n0_ := Aside0.mk (Kd.R_over' (v := (.slice (some ⟨go22, 0, none⟩) x8_2.length co22)) (by (with_reducible repeat (first | apply Kd.R_alloc | apply Kd.R_drewN | apply Kd.R_drew)); exact HO_6.out) (Kd.R_typed HO_8.out) (by decide) hg); have n1_ := Aside0.mk (hp_); have n2_ := Aside0.mk ((by rw [hw]; exact below_set (HB.out) GB22.out : Below w.heap.size w w25)); clear HO_6; clear HO_8; clear HB; have HO_6 := n0_; have HO_8 := n1_; have HB := n2_; clear n0_ n1_ n2_; clear hg hw hp_))
                        go_roundg k2
                        case measure => have := HJ4.out; have := HK2.out; omega
                        case rel => exact ⟨(y241), (wrap64 (x9_2 + 1)), (by first | rfl | (simp; done) | (simp [*]; done)), H', ⟨by have := HJ4.out; have := HK2.out; omega⟩, ⟨by (with_reducible repeat (first | apply Kd.R_alloc | apply Kd.R_drewN | apply Kd.R_drew)); exact HO_6.out⟩, ⟨by (with_reducible repeat (first | apply Kd.R_alloc | apply Kd.R_drewN | apply Kd.R_drew)); exact HO_8.out⟩, ⟨by repeat (first | (with_reducible first | exact HB.out | apply below_alloc | apply pw_below_drewN | apply below_drew1) | exact HB.out)⟩⟩
                      · rw [if_neg c21] at H
                        exact absurd H (by simp)
                    · rw [if_neg c20] at H
                      exact absurd H (by simp)
                  · rw [if_neg c19] at H
                    exact absurd H (by simp)
                · rw [if_neg c18] at H
                  have c18b0 : decide (x9_2 < a0) = false := decide_eq_false c18
                  clear c18
                  simp only [Option.some.injEq, Prod.mk.injEq] at H
                  obtain ⟨rfl, rfl⟩ := H
                  go_wp2
                  go_ret2
                  exact ⟨_, by first | rfl | (simp [errW_none, errW_some] <;> rfl) | (simp [*, errW_none, errW_some] <;> rfl), by (with_reducible repeat (first | apply Kd.R_alloc | apply Kd.R_drewN | apply Kd.R_drew)); exact HO_8.out, by repeat (first | (with_reducible first | exact HB.out | apply below_alloc | apply pw_below_drewN | apply below_drew1) | exact HB.out)⟩
          · rw [if_neg c15] at H
            exact absurd H (by simp)
        · rw [if_neg c14] at H
          exact absurd H (by simp)

end Go.Proofs.Ytegejpcglabhbaa.G
