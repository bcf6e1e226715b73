-- Made by a program of this claim's author out of the translation (a patched run of the kit's print).
import Derived.Test.YtegejpcglabhbaaG0
import Derived.Test.YtegejpcglabhbaaGf25
import Derived.Test.YtegejpcglabhbaaGf50
import Derived.Test.YtegejpcglabhbaaGf66
namespace Go.Proofs.Ytegejpcglabhbaa.G
open Go.RowKit Go.Proofs.YtegejpcglabhbaaW.PrintWords Go.Proofs.YtegejpcglabhbaaW.PrintLast Go.Proofs.YtegejpcglabhbaaW.PrintMore
attribute [local go_sem] max2_int min2_int max_two min_two max_three min_three max_four min_four   -- for this text's walks alone
set_option linter.unusedVariables false
set_option linter.unusedSimpArgs false

/-! ### tenetref02_Minimal: function 37 -/
mutual
def tenetref02_Minimal.l0 : Nat → Int → List (S44) → List Int → Int → Option (List Int × Int)
  | 0, _, _, _, _ => none
  | k + 1, x0, x1, x8, x9 => if x9 < (x1.length : Int) then (if x8.length < 17592186044416 then (tenetref02_Minimal.l0 k x0 x1 (x8 ++ [x9]) (wrap64 (x9 + 1))) else (none)) else (tenetref02_Minimal.l1 k x0 x1 x8 (wrap64 ((x1.length : Int) - 1)))
def tenetref02_Minimal.l1 : Nat → Int → List (S44) → List Int → Int → Option (List Int × Int)
  | 0, _, _, _, _ => none
  | k + 1, x0, x1, x8, x10 => if x10 ≥ 0 then (tenetref02_Minimal.l2 k x0 x1 x8 x10 ([] : List Int) ([] : List (S44)) 0) else (some (x8, 0))
def tenetref02_Minimal.l2 : Nat → Int → List (S44) → List Int → Int → List Int → List (S44) → Int → Option (List Int × Int)
  | 0, _, _, _, _, _, _, _ => none
  | k + 1, x0, x1, x8, x10, x11, x12, x13 => if x13 < (x8.length : Int) then (if 0 ≤ x13 then (if (rd x8 x13) = x10 then (tenetref02_Minimal.l2 k x0 x1 x8 x10 x11 x12 (wrap64 (x13 + 1))) else (if x11.length < 17592186044416 then (if 0 ≤ (rd x8 x13) then (if (rd x8 x13) < (x1.length : Int) then (if x12.length < 2199023255552 then (tenetref02_Minimal.l2 k x0 x1 x8 x10 (x11 ++ [rd x8 x13]) (x12 ++ [(⟨(⟨(rd_T44 x1 (rd x8 x13)).f0.f0, (rd_T44 x1 (rd x8 x13)).f0.f1⟩ : S41), (⟨(rd_T44 x1 (rd x8 x13)).f1.f0, (rd_T44 x1 (rd x8 x13)).f1.f1⟩ : S41)⟩ : S44)]) (wrap64 (x13 + 1))) else (none)) else (none)) else (none)) else (none))) else (none)) else (if 0 ≤ x10 then (if x10 < (x1.length : Int) then ((tenetref02_follows.f k x0 x12 ((rd_T44 x1 x10).f0.f0) ((rd_T44 x1 x10).f0.f1) ((rd_T44 x1 x10).f1.f0) ((rd_T44 x1 x10).f1.f1)).bind fun t472 => (if t472 = true then (tenetref02_Minimal.l1 k x0 x1 x11 (wrap64 (x10 - 1))) else (tenetref02_Minimal.l1 k x0 x1 x8 (wrap64 (x10 - 1))))) else (none)) else (none))
end
def tenetref02_Minimal.f (k : Nat) (a0 : Int) (l1 : List (S44)) : Option (List Int × Int) := (tenetref02_Valid.f k a0 l1).bind fun t453 => (if t453 = true then (if (l1.length : Int) > 200 then (some (([] : List Int), 2)) else ((tenetref02_solve.f k a0 l1).bind fun bt454 => (if bt454.2 = true then (tenetref02_Minimal.l0 k a0 l1 ([] : List Int) 0) else (some (([] : List Int), 20))))) else (some (([] : List Int), 4)))
theorem tenetref02_Minimal.mono_l : ∀ k, (∀ y0 y1 y2 y3, LeO (tenetref02_Minimal.l0 k y0 y1 y2 y3) (tenetref02_Minimal.l0 (k + 1) y0 y1 y2 y3)) ∧ (∀ y0 y1 y2 y3, LeO (tenetref02_Minimal.l1 k y0 y1 y2 y3) (tenetref02_Minimal.l1 (k + 1) y0 y1 y2 y3)) ∧ (∀ y0 y1 y2 y3 y4 y5 y6, LeO (tenetref02_Minimal.l2 k y0 y1 y2 y3 y4 y5 y6) (tenetref02_Minimal.l2 (k + 1) y0 y1 y2 y3 y4 y5 y6))
  | 0 => ⟨fun _ _ _ _ r h => by simp [tenetref02_Minimal.l0] at h, fun _ _ _ _ r h => by simp [tenetref02_Minimal.l1] at h, fun _ _ _ _ _ _ _ r h => by simp [tenetref02_Minimal.l2] at h⟩
  | k + 1 => by
    obtain ⟨ih0, ih1, ih2⟩ := tenetref02_Minimal.mono_l k
    refine ⟨?_, ?_, ?_⟩
    · intro y0 y1 y2 y3
      unfold tenetref02_Minimal.l0
      repeat' first
      | (with_reducible exact ih0 _ _ _ _)
      | (with_reducible exact ih1 _ _ _ _)
      | (with_reducible exact ih2 _ _ _ _ _ _ _)
      | (with_reducible exact tenetref02_Valid.mono _ _ _)
      | (with_reducible exact tenetref02_follows.mono _ _ _ _ _ _ _)
      | (with_reducible exact tenetref02_solve.mono _ _ _)
      | (with_reducible exact LeO.refl _)
      | (with_reducible exact LeO.none _)
      | (with_reducible refine LeO.ite ?_ ?_)
      | (with_reducible refine LeO.bind ?_ (fun _ => ?_))
      | exact ih0 _ _ _ _
      | exact ih1 _ _ _ _
      | exact ih2 _ _ _ _ _ _ _
      | exact tenetref02_Valid.mono _ _ _
      | exact tenetref02_follows.mono _ _ _ _ _ _ _
      | exact tenetref02_solve.mono _ _ _
      | exact LeO.none _
      | refine LeO.ite ?_ ?_
      | refine LeO.bind ?_ (fun _ => ?_)
    · intro y0 y1 y2 y3
      unfold tenetref02_Minimal.l1
      repeat' first
      | (with_reducible exact ih0 _ _ _ _)
      | (with_reducible exact ih1 _ _ _ _)
      | (with_reducible exact ih2 _ _ _ _ _ _ _)
      | (with_reducible exact tenetref02_Valid.mono _ _ _)
      | (with_reducible exact tenetref02_follows.mono _ _ _ _ _ _ _)
      | (with_reducible exact tenetref02_solve.mono _ _ _)
      | (with_reducible exact LeO.refl _)
      | (with_reducible exact LeO.none _)
      | (with_reducible refine LeO.ite ?_ ?_)
      | (with_reducible refine LeO.bind ?_ (fun _ => ?_))
      | exact ih0 _ _ _ _
      | exact ih1 _ _ _ _
      | exact ih2 _ _ _ _ _ _ _
      | exact tenetref02_Valid.mono _ _ _
      | exact tenetref02_follows.mono _ _ _ _ _ _ _
      | exact tenetref02_solve.mono _ _ _
      | exact LeO.none _
      | refine LeO.ite ?_ ?_
      | refine LeO.bind ?_ (fun _ => ?_)
    · intro y0 y1 y2 y3 y4 y5 y6
      unfold tenetref02_Minimal.l2
      repeat' first
      | (with_reducible exact ih0 _ _ _ _)
      | (with_reducible exact ih1 _ _ _ _)
      | (with_reducible exact ih2 _ _ _ _ _ _ _)
      | (with_reducible exact tenetref02_Valid.mono _ _ _)
      | (with_reducible exact tenetref02_follows.mono _ _ _ _ _ _ _)
      | (with_reducible exact tenetref02_solve.mono _ _ _)
      | (with_reducible exact LeO.refl _)
      | (with_reducible exact LeO.none _)
      | (with_reducible refine LeO.ite ?_ ?_)
      | (with_reducible refine LeO.bind ?_ (fun _ => ?_))
      | exact ih0 _ _ _ _
      | exact ih1 _ _ _ _
      | exact ih2 _ _ _ _ _ _ _
      | exact tenetref02_Valid.mono _ _ _
      | exact tenetref02_follows.mono _ _ _ _ _ _ _
      | exact tenetref02_solve.mono _ _ _
      | exact LeO.none _
      | refine LeO.ite ?_ ?_
      | refine LeO.bind ?_ (fun _ => ?_)
theorem tenetref02_Minimal.mono : ∀ a0 a1 k, LeO (tenetref02_Minimal.f k a0 a1) (tenetref02_Minimal.f (k + 1) a0 a1) := by
  intro a0 a1 k
  obtain ⟨ih0, ih1, ih2⟩ := tenetref02_Minimal.mono_l k
  unfold tenetref02_Minimal.f
  repeat' first
      | (with_reducible exact ih0 _ _ _ _)
      | (with_reducible exact ih1 _ _ _ _)
      | (with_reducible exact ih2 _ _ _ _ _ _ _)
      | (with_reducible exact tenetref02_Valid.mono _ _ _)
      | (with_reducible exact tenetref02_follows.mono _ _ _ _ _ _ _)
      | (with_reducible exact tenetref02_solve.mono _ _ _)
      | (with_reducible exact LeO.refl _)
      | (with_reducible exact LeO.none _)
      | (with_reducible refine LeO.ite ?_ ?_)
      | (with_reducible refine LeO.bind ?_ (fun _ => ?_))
      | exact ih0 _ _ _ _
      | exact ih1 _ _ _ _
      | exact ih2 _ _ _ _ _ _ _
      | exact tenetref02_Valid.mono _ _ _
      | exact tenetref02_follows.mono _ _ _ _ _ _ _
      | exact tenetref02_solve.mono _ _ _
      | exact LeO.none _
      | refine LeO.ite ?_ ?_
      | refine LeO.bind ?_ (fun _ => ?_)
set_option maxHeartbeats 8000000 in
set_option maxRecDepth 100000 in
theorem tenetref02_Minimal.calls (k : Nat) (a0 : Int) (P1_ : Nat → Prop) (A1 : Option Addr) (c1 : Nat) (l1 : List (S44)) (r1 : List Int) (r2 : Int) (w : World) (hs1 : Kd.V k44 44 w w.heap.size (fun k_ => P1_ k_) (.slice A1 l1.length c1) l1) (h : tenetref02_Minimal.f k a0 l1 = some (r1, r2)) :
    Calls Try.prog 37 #[.int .i64 a0, .slice A1 l1.length c1] w fun e w' => ∃ v0_ : Value, e = .returned (.tuple #[v0_, .int .i64 r2]) ∧ Kd.R (Kd.int .i64) 3 w' w.heap.size (fun k_ => (w.heap.size ≤ k_)) v0_ r1 ∧ Below w.heap.size w w' := by
  have hu44 := Try.underlying44
  have HO1 := Aside0.mk (show Kd.V k44 44 w w.heap.size (fun k_ => (P1_ k_ ∨ w.heap.size ≤ k_)) (.slice A1 l1.length c1) l1 from Kd.V_mono hs1 (fun k_ hk => .inl hk))
  have HB := Aside0.mk (Below.refl w.heap.size w)
  have H : ((tenetref02_Valid.f k a0 l1).bind fun t453 => (if t453 = true then (if (l1.length : Int) > 200 then (some (([] : List Int), 2)) else ((tenetref02_solve.f k a0 l1).bind fun bt454 => (if bt454.2 = true then (tenetref02_Minimal.l0 k a0 l1 ([] : List Int) 0) else (some (([] : List Int), 20))))) else (some (([] : List Int), 4)))) = some (r1, r2) := h
  clear h
  replace H := Option.bind_eq_some_iff.mp H
  obtain ⟨t453, A30, H⟩ := H
  replace H : (if t453 = true then (if (l1.length : Int) > 200 then (some (([] : List Int), 2)) else ((tenetref02_solve.f k a0 l1).bind fun bt454 => (if bt454.2 = true then (tenetref02_Minimal.l0 k a0 l1 ([] : List Int) 0) else (some (([] : List Int), 20))))) else (some (([] : List Int), 4))) = some (r1, r2) := H
  have A3 := Aside0.mk A30
  clear A30
  by_cases c4 : t453 = true
  · subst c4
    have H1 : (if (l1.length : Int) > 200 then (some (([] : List Int), 2)) else ((tenetref02_solve.f k a0 l1).bind fun bt454 => (if bt454.2 = true then (tenetref02_Minimal.l0 k a0 l1 ([] : List Int) 0) else (some (([] : List Int), 20))))) = some (r1, r2) := by rw [if_pos rfl] at H; exact H
    clear H
    have H := H1
    clear H1
    by_cases c5 : (l1.length : Int) > 200
    · rw [if_pos c5] at H
      have c5b0 : decide (200 < (l1.length : Int)) = true := decide_eq_true c5
      have c5b1 : decide (200 < l1.length) = true := decide_eq_true (by omega)
      clear c5
      simp only [Option.some.injEq, Prod.mk.injEq] at H
      obtain ⟨rfl, rfl⟩ := H
      go_enter Try.func37, Try.ntmps37
      go_wp2_with (first | ((with_reducible refine gate_callee (f := 25) rfl ?_); refine goesL_ (some 16) rfl rfl Try.func25 (by kernel_rfl) rfl #[.int .i64 a0, .slice A1 l1.length c1] rfl (by (try simp only [List.map_toArray, List.map_cons, List.map_nil]); first | done | rfl | (simp only [List.length_drop, List.length_take]; rfl)) ?_; (with_reducible refine (tenetref02_Valid.calls k a0 _ _ l1 true _ ?side1 ?side2 A3.out).mono ?_); (case side1 => repeat (first | exact (Kd.V_reads' HO1.out).2.2 | (with_reducible refine Kd.C_alloc ?_ _) | (with_reducible refine Kd.C_drewN ?_ _) | (with_reducible refine Kd.C_drew ?_))); (case side2 => exact (Kd.V_reads' HO1.out).2.1); rintro e w6 ⟨rfl, hb⟩; refine ⟨_, rfl, ?_⟩; have n0_ := Aside0.mk (Kd.V_below (by (with_reducible repeat (first | apply Kd.V_alloc | apply Kd.V_drewN | apply Kd.V_drew)); exact HO1.out) hb); have n1_ := Aside0.mk (below_step (by repeat (first | (with_reducible first | exact HB.out | apply below_alloc | apply pw_below_drewN | apply below_drew1) | exact HB.out)) hb); clear HO1; clear HB; have HO1 := n0_; have HB := n1_; clear n0_ n1_; (try clear hb); (try clear hb2); (try clear hk); (try clear hi)))
      go_ret2
      exact ⟨_, by first | rfl | (simp [errW_none, errW_some] <;> rfl) | (simp [*, errW_none, errW_some] <;> rfl), by first | exact Kd.R_nil _ _ _ _ _ | exact Kd.N_nil _ _ _ _ _ | exact Kd.V_nil _ _ _ _ _ | exact Kd.Q_nil _ _ _ _ _ | exact Kd.S_nil _ _ _ _ _, by repeat (first | (with_reducible first | exact HB.out | apply below_alloc | apply pw_below_drewN | apply below_drew1) | exact HB.out)⟩
    · rw [if_neg c5] at H
      have c5b0 : decide (200 < (l1.length : Int)) = false := decide_eq_false c5
      have c5b1 : decide (200 < l1.length) = false := decide_eq_false (by omega)
      clear c5
      replace H := Option.bind_eq_some_iff.mp H
      obtain ⟨⟨t454, t455⟩, A70, H⟩ := H
      replace H : (if t455 = true then (tenetref02_Minimal.l0 k a0 l1 ([] : List Int) 0) else (some (([] : List Int), 20))) = some (r1, r2) := H
      have A7 := Aside0.mk A70
      clear A70
      by_cases c8 : t455 = true
      · subst c8
        have H1 : (tenetref02_Minimal.l0 k a0 l1 ([] : List Int) 0) = some (r1, r2) := by rw [if_pos rfl] at H; exact H
        clear H
        have H := H1
        clear H1
        have H' := Aside0.mk H
        clear H
        go_enter Try.func37, Try.ntmps37
        go_wp2_with (first | ((with_reducible refine gate_callee (f := 25) rfl ?_); refine goesL_ (some 16) rfl rfl Try.func25 (by kernel_rfl) rfl #[.int .i64 a0, .slice A1 l1.length c1] rfl (by (try simp only [List.map_toArray, List.map_cons, List.map_nil]); first | done | rfl | (simp only [List.length_drop, List.length_take]; rfl)) ?_; (with_reducible refine (tenetref02_Valid.calls k a0 _ _ l1 true _ ?side1 ?side2 A3.out).mono ?_); (case side1 => repeat (first | exact (Kd.V_reads' HO1.out).2.2 | (with_reducible refine Kd.C_alloc ?_ _) | (with_reducible refine Kd.C_drewN ?_ _) | (with_reducible refine Kd.C_drew ?_))); (case side2 => exact (Kd.V_reads' HO1.out).2.1); rintro e w9 ⟨rfl, hb⟩; refine ⟨_, rfl, ?_⟩; have n0_ := Aside0.mk (Kd.V_below (by (with_reducible repeat (first | apply Kd.V_alloc | apply Kd.V_drewN | apply Kd.V_drew)); exact HO1.out) hb); have n1_ := Aside0.mk (below_step (by repeat (first | (with_reducible first | exact HB.out | apply below_alloc | apply pw_below_drewN | apply below_drew1) | exact HB.out)) hb); clear HO1; clear HB; have HO1 := n0_; have HB := n1_; clear n0_ n1_; (try clear hb); (try clear hb2); (try clear hk); (try clear hi)) | ((with_reducible refine gate_callee (f := 50) rfl ?_); refine goesL_ (some 24) rfl rfl Try.func50 (by kernel_rfl) rfl #[.int .i64 a0, .slice A1 l1.length c1] rfl (by (try simp only [List.map_toArray, List.map_cons, List.map_nil]); first | done | rfl | (simp only [List.length_drop, List.length_take]; rfl)) ?_; (with_reducible refine (tenetref02_solve.calls k a0 _ _ l1 t454 true _ ?side1 ?side2 A7.out).mono ?_); (case side1 => repeat (first | exact (Kd.V_reads' HO1.out).2.2 | (with_reducible refine Kd.C_alloc ?_ _) | (with_reducible refine Kd.C_drewN ?_ _) | (with_reducible refine Kd.C_drew ?_))); (case side2 => exact (Kd.V_reads' HO1.out).2.1); rintro e w10 ⟨v456, rfl, ho0, hb⟩; refine ⟨_, rfl, ?_⟩; have n0_ := Aside0.mk (Kd.V_elder' (by (with_reducible repeat (first | apply Kd.V_alloc | apply Kd.V_drewN | apply Kd.V_drew)); exact HO1.out) (Kd.R_base ho0) hb); have n1_ := Aside0.mk (Kd.R_lower (Kd.R_newM (M := fun k_ => (w.heap.size ≤ k_)) ho0 (below_size (by repeat (first | (with_reducible first | exact HB.out | apply below_alloc | apply pw_below_drewN | apply below_drew1) | exact HB.out))) (fun k_ h_ => h_)) (below_size (by repeat (first | (with_reducible first | exact HB.out | apply below_alloc | apply pw_below_drewN | apply below_drew1) | exact HB.out)))); have n2_ := Aside0.mk (below_step (by repeat (first | (with_reducible first | exact HB.out | apply below_alloc | apply pw_below_drewN | apply below_drew1) | exact HB.out)) hb); clear HO1; clear HB; have HO1 := n0_; have HO457 := n1_; have HB := n2_; clear n0_ n1_ n2_; (try clear hb); (try clear hb2); (try clear hk); (try clear hi); (try clear ho0)))
        go_loopg [8, 9] k (fun kq v8 v9 w' => ∃ (x8_1 : List Int) (x9_1 : Int), v9 = .int .i64 x9_1 ∧ Aside0 (tenetref02_Minimal.l0 kq a0 l1 x8_1 x9_1 = some (r1, r2)) ∧ Aside0 (kq ≤ k) ∧ Aside0 (Kd.V k44 44 w' w.heap.size (fun k_ => (P1_ k_ ∨ w.heap.size ≤ k_) ∧ some k_ ≠ (v8 : Value).ownBlock) (.slice A1 l1.length c1) l1) ∧ Aside0 (Kd.R (Kd.int .i64) 3 w' w.heap.size (fun k_ => (w.heap.size ≤ k_)) v8 x8_1) ∧ Aside0 (Below w.heap.size w w'))
        case atStart => exact ⟨(([] : List Int)), (0), (by first | rfl | (simp; done) | (simp [*]; done)), H', ⟨Nat.le_refl _⟩, ⟨by (with_reducible repeat (first | apply Kd.V_alloc | apply Kd.V_drewN | apply Kd.V_drew)); exact Kd.V_mono HO1.out (fun _ hk => ⟨hk.1, (by simp [Value.ownBlock])⟩)⟩, ⟨by first | exact Kd.R_nil _ _ _ _ _ | exact Kd.N_nil _ _ _ _ _ | exact Kd.V_nil _ _ _ _ _ | exact Kd.Q_nil _ _ _ _ _ | exact Kd.S_nil _ _ _ _ _⟩, ⟨by repeat (first | (with_reducible first | exact HB.out | apply below_alloc | apply pw_below_drewN | apply below_drew1) | exact HB.out)⟩⟩
        case round =>
          clear H'
          try clear c1
          try clear c2
          try clear p2
          try clear c3
          try clear c4
          try clear c5
          try clear c5b0
          try clear c5b1
          try clear c8
          obtain ⟨x8_1, x9_1, rfl, HA, HK1, HO_1, HO_8, HB⟩ := hrel
          cases gk with
          | zero => exact absurd HA.out (by simp [tenetref02_Minimal.l0])
          | succ k1 =>
            have H := HA.out
            clear HA
            simp only [tenetref02_Minimal.l0] at H
            by_cases c11 : x9_1 < (l1.length : Int)
            · rw [if_pos c11] at H
              have c11b0 : decide (x9_1 < (l1.length : Int)) = true := decide_eq_true c11
              clear c11
              by_cases c12 : x8_1.length < 17592186044416
              · rw [if_pos c12] at H
                have LMc12 := Aside0.mk c12
                clear c12
                obtain ⟨y458, hy458⟩ : ∃ y_ : List Int, y_ = (x8_1 ++ [x9_1]) := ⟨_, rfl⟩
                replace H : (tenetref02_Minimal.l0 k1 a0 l1 y458 (wrap64 (x9_1 + 1))) = some (r1, r2) := by first | (rw [hy458]; with_reducible exact H) | (have H2_ := (Option.bind_some _ _).symm.trans H; rw [hy458]; with_reducible exact H2_) | (have H2_ := (Option.bind_some _ _).symm.trans H; with_reducible exact H2_) | with_reducible exact H | (rw [hy458]; exact H) | exact H
                have Ny458 := Aside0.mk hy458
                clear hy458
                have H' := Aside0.mk H
                clear H
                go_wp2_with (first | ((with_reducible refine gate_builtin (b := .append) (xs := #[.tmp 35, .tmp 37]) rfl ?_); at_builtin; refine Kd.R_append (Kd.int .i64) (w0 := w) w.heap.size rfl (.tmp 35) (.tmp 37) 25 3 (.int .i64 0) 8 rfl Try.underlying25 info3 rfl (by decide) (by omega) u8 x8_1 x9_1 [.int .i64 x9_1] (fun k_ => (w.heap.size ≤ k_)) (fun _ => False) rfl rfl ?aP (fun _ hk => hk.elim) ?aF ?aO ?aB ?aS ?aL ?_; (case aP => exact rfl); (case aB => exact (by repeat (first | (with_reducible first | exact HB.out | apply below_alloc | apply pw_below_drewN | apply below_drew1) | exact HB.out))); (case aF => exact (fun k_ hk => (Nat.le_trans (below_size (by repeat (first | (with_reducible first | exact HB.out | apply below_alloc | apply pw_below_drewN | apply below_drew1) | exact HB.out))) hk))); (case aO => exact (by (with_reducible repeat (first | apply Kd.R_alloc | apply Kd.R_drewN | apply Kd.R_drew)); exact HO_8.out)); (case aS => exact (below_size (by repeat (first | (with_reducible first | exact HB.out | apply below_alloc | apply pw_below_drewN | apply below_drew1) | exact HB.out)))); (case aL => have := LMc12.out; omega); intro v459 w13 ho hb hg hat; rw [← Ny458.out] at ho; have n0_ := Aside0.mk (Kd.V_afterv (ok := (fun k_ => (P1_ k_ ∨ w.heap.size ≤ k_))) (by (with_reducible repeat (first | apply Kd.V_alloc | apply Kd.V_drewN | apply Kd.V_drew)); exact HO_1.out) hg hat); have n1_ := Aside0.mk (hb); have n2_ := Aside0.mk (ho); clear HO_1; clear HB; clear HO_8; have HO_1 := n0_; have HB := n1_; have HO460 := n2_; clear n0_ n1_ n2_; clear ho hb hg hat))
                go_roundg k1
                case measure => have := HK1.out; omega
                case rel => exact ⟨(y458), (wrap64 (x9_1 + 1)), (by first | rfl | (simp; done) | (simp [*]; done)), H', ⟨by have := HK1.out; omega⟩, ⟨by (with_reducible repeat (first | apply Kd.V_alloc | apply Kd.V_drewN | apply Kd.V_drew)); exact HO_1.out⟩, ⟨by (with_reducible repeat (first | apply Kd.R_alloc | apply Kd.R_drewN | apply Kd.R_drew)); exact HO460.out⟩, ⟨by repeat (first | (with_reducible first | exact HB.out | apply below_alloc | apply pw_below_drewN | apply below_drew1) | exact HB.out)⟩⟩
              · rw [if_neg c12] at H
                exact absurd H (by simp)
            · rw [if_neg c11] at H
              have c11b0 : decide (x9_1 < (l1.length : Int)) = false := decide_eq_false c11
              clear c11
              have H' := Aside0.mk H
              clear H
              go_wp2
              go_loopg [8, 10] k1 (fun kq v8 v10 w' => ∃ (x8_2 : List Int) (x10_2 : Int), v10 = .int .i64 x10_2 ∧ Aside0 (tenetref02_Minimal.l1 kq a0 l1 x8_2 x10_2 = some (r1, r2)) ∧ Aside0 (kq ≤ k1) ∧ Aside0 (Kd.V k44 44 w' w.heap.size (fun k_ => (P1_ k_ ∨ w.heap.size ≤ k_) ∧ some k_ ≠ (v8 : Value).ownBlock) (.slice A1 l1.length c1) l1) ∧ Aside0 (Kd.R (Kd.int .i64) 3 w' w.heap.size (fun k_ => (w.heap.size ≤ k_)) v8 x8_2) ∧ Aside0 (Below w.heap.size w w'))
              case atStart => exact ⟨(x8_1), (wrap64 ((l1.length : Int) - 1)), (by first | rfl | (simp; done) | (simp [*]; done)), H', ⟨Nat.le_refl _⟩, ⟨by (with_reducible repeat (first | apply Kd.V_alloc | apply Kd.V_drewN | apply Kd.V_drew)); exact HO_1.out⟩, ⟨by (with_reducible repeat (first | apply Kd.R_alloc | apply Kd.R_drewN | apply Kd.R_drew)); exact HO_8.out⟩, ⟨by repeat (first | (with_reducible first | exact HB.out | apply below_alloc | apply pw_below_drewN | apply below_drew1) | exact HB.out)⟩⟩
              case round =>
                clear H'
                try clear c1
                try clear c2
                try clear p2
                try clear c3
                try clear c4
                try clear c5
                try clear c5b0
                try clear c5b1
                try clear p6
                try clear c8
                try clear c11
                try clear c11b0
                try clear c12
                try clear p2
                obtain ⟨x8_2, x10_2, rfl, HA, HK2, HO_1, HO_8, HB⟩ := hrel
                cases gk with
                | zero => exact absurd HA.out (by simp [tenetref02_Minimal.l1])
                | succ k2 =>
                  have H := HA.out
                  clear HA
                  simp only [tenetref02_Minimal.l1] at H
                  by_cases c14 : x10_2 ≥ 0
                  · rw [if_pos c14] at H
                    have c14b0 : decide (0 ≤ x10_2) = true := decide_eq_true c14
                    clear c14
                    have H' := Aside0.mk H
                    clear H
                    go_wp2
                    go_loopg [11, 12, 13] k2 (fun kq v11 v12 v13 w' => ∃ (x11_3 : List Int) (x12_3 : List (S44)) (x13_3 : Int), v13 = .int .i64 x13_3 ∧ Aside0 (tenetref02_Minimal.l2 kq a0 l1 x8_2 x10_2 x11_3 x12_3 x13_3 = some (r1, r2)) ∧ Aside0 (kq ≤ k2) ∧ Aside0 (Kd.V k44 44 w' w.heap.size (fun k_ => (P1_ k_ ∨ w.heap.size ≤ k_) ∧ some k_ ≠ (u8 : Value).ownBlock ∧ some k_ ≠ (v11 : Value).ownBlock ∧ some k_ ≠ (v12 : Value).ownBlock) (.slice A1 l1.length c1) l1) ∧ Aside0 (Kd.R (Kd.int .i64) 3 w' w.heap.size (fun k_ => (w.heap.size ≤ k_) ∧ some k_ ≠ (v11 : Value).ownBlock) u8 x8_2) ∧ Aside0 (Kd.R (Kd.int .i64) 3 w' w.heap.size (fun k_ => (w.heap.size ≤ k_) ∧ some k_ ≠ (u8 : Value).ownBlock) v11 x11_3) ∧ Aside0 (Kd.N k44 44 w' w.heap.size (fun k_ => (P1_ k_ ∨ w.heap.size ≤ k_) ∧ some k_ ≠ (u8 : Value).ownBlock ∧ some k_ ≠ (v11 : Value).ownBlock) v12 x12_3) ∧ Aside0 (Below w.heap.size w w'))
                    case atStart => exact ⟨(([] : List Int)), (([] : List (S44))), (0), (by first | rfl | (simp; done) | (simp [*]; done)), H', ⟨Nat.le_refl _⟩, ⟨by (with_reducible repeat (first | apply Kd.V_alloc | apply Kd.V_drewN | apply Kd.V_drew)); exact Kd.V_mono HO_1.out (fun _ hk => ⟨hk.1, ⟨hk.2, ⟨(by simp [Value.ownBlock]), (by simp [Value.ownBlock])⟩⟩⟩)⟩, ⟨by (with_reducible repeat (first | apply Kd.R_alloc | apply Kd.R_drewN | apply Kd.R_drew)); exact Kd.R_mono HO_8.out (fun _ hk => ⟨hk, (by simp [Value.ownBlock])⟩)⟩, ⟨by first | exact Kd.R_nil _ _ _ _ _ | exact Kd.N_nil _ _ _ _ _ | exact Kd.V_nil _ _ _ _ _ | exact Kd.Q_nil _ _ _ _ _ | exact Kd.S_nil _ _ _ _ _⟩, ⟨by first | exact Kd.S_nil _ _ _ _ _ | exact Kd.N_nil _ _ _ _ _ | exact Kd.V_nil _ _ _ _ _ | exact Kd.Q_nil _ _ _ _ _ | exact Kd.R_nil _ _ _ _ _⟩, ⟨by repeat (first | (with_reducible first | exact HB.out | apply below_alloc | apply pw_below_drewN | apply below_drew1) | exact HB.out)⟩⟩
                    case round =>
                      clear H'
                      try clear c1
                      try clear c2
                      try clear p2
                      try clear c3
                      try clear c4
                      try clear c5
                      try clear c5b0
                      try clear c5b1
                      try clear p6
                      try clear c8
                      try clear c11
                      try clear c11b0
                      try clear c12
                      try clear c14
                      try clear c14b0
                      try clear p2
                      try clear p6
                      obtain ⟨x11_3, x12_3, x13_3, rfl, HA, HK3, HO_1, HO_8, HO_11, HO_12, HB⟩ := hrel
                      cases gk with
                      | zero => exact absurd HA.out (by simp [tenetref02_Minimal.l2])
                      | succ k3 =>
                        have H := HA.out
                        clear HA
                        simp only [tenetref02_Minimal.l2] at H
                        by_cases c15 : x13_3 < (x8_2.length : Int)
                        · rw [if_pos c15] at H
                          have c15b0 : decide (x13_3 < (x8_2.length : Int)) = true := decide_eq_true c15
                          clear c15
                          by_cases c16 : 0 ≤ x13_3
                          · rw [if_pos c16] at H
                            have c16b0 : decide (0 ≤ x13_3) = true := decide_eq_true c16
                            clear c16
                            by_cases c17 : (rd x8_2 x13_3) = x10_2
                            · rw [if_pos c17] at H
                              have c17b0 : ((rd x8_2 x13_3) == x10_2) = true := beq_iff_eq.mpr c17
                              have c17b1 : ((rd x8_2 x13_3) != x10_2) = false := bne_eq_false_iff_eq.mpr c17
                              clear c17
                              have H' := Aside0.mk H
                              clear H
                              obtain ⟨Ao18, co18, eo18⟩ := Kd.R_slice HO_8.out
                              subst eo18
                              have p461 : 0 ≤ (x13_3 : Int) := of_decide_eq_true (by first | (with_reducible assumption) | assumption)
                              have q461 : x13_3 < (x8_2.length : Int) := of_decide_eq_true (by first | (with_reducible assumption) | assumption)
                              obtain ⟨ad461, e461, hx461_0⟩ := Kd.at_int (Kd.R_reads' HO_8.out).2.2 x13_3 p461 q461
                              cases e461
                              replace p461 := eq_true p461
                              replace q461 := eq_true q461
                              go_wp2
                              go_roundg k3
                              case measure => have := HK1.out; have := HK2.out; have := HK3.out; omega
                              case rel => exact ⟨(x11_3), (x12_3), (wrap64 (x13_3 + 1)), (by first | rfl | (simp; done) | (simp [*]; done)), H', ⟨by have := HK1.out; have := HK2.out; have := HK3.out; omega⟩, ⟨by (with_reducible repeat (first | apply Kd.V_alloc | apply Kd.V_drewN | apply Kd.V_drew)); exact HO_1.out⟩, ⟨by (with_reducible repeat (first | apply Kd.R_alloc | apply Kd.R_drewN | apply Kd.R_drew)); exact HO_8.out⟩, ⟨by (with_reducible repeat (first | apply Kd.R_alloc | apply Kd.R_drewN | apply Kd.R_drew)); exact HO_11.out⟩, ⟨by (with_reducible repeat (first | apply Kd.N_alloc | apply Kd.N_drewN | apply Kd.N_drew)); exact HO_12.out⟩, ⟨by repeat (first | (with_reducible first | exact HB.out | apply below_alloc | apply pw_below_drewN | apply below_drew1) | exact HB.out)⟩⟩
                            · rw [if_neg c17] at H
                              have c17b0 : ((rd x8_2 x13_3) == x10_2) = false := beq_eq_false_iff_ne.mpr c17
                              have c17b1 : ((rd x8_2 x13_3) != x10_2) = true := bne_iff_ne.mpr c17
                              by_cases c19 : x11_3.length < 17592186044416
                              · rw [if_pos c19] at H
                                have LMc19 := Aside0.mk c19
                                clear c19
                                obtain ⟨y463, hy463⟩ : ∃ y_ : List Int, y_ = (x11_3 ++ [rd x8_2 x13_3]) := ⟨_, rfl⟩
                                replace H : (if 0 ≤ (rd x8_2 x13_3) then (if (rd x8_2 x13_3) < (l1.length : Int) then (if x12_3.length < 2199023255552 then (tenetref02_Minimal.l2 k3 a0 l1 x8_2 x10_2 y463 (x12_3 ++ [(⟨(⟨(rd_T44 l1 (rd x8_2 x13_3)).f0.f0, (rd_T44 l1 (rd x8_2 x13_3)).f0.f1⟩ : S41), (⟨(rd_T44 l1 (rd x8_2 x13_3)).f1.f0, (rd_T44 l1 (rd x8_2 x13_3)).f1.f1⟩ : S41)⟩ : S44)]) (wrap64 (x13_3 + 1))) else (none)) else (none)) else (none)) = some (r1, r2) := by first | (rw [hy463]; with_reducible exact H) | (have H2_ := (Option.bind_some _ _).symm.trans H; rw [hy463]; with_reducible exact H2_) | (have H2_ := (Option.bind_some _ _).symm.trans H; with_reducible exact H2_) | with_reducible exact H | (rw [hy463]; exact H) | exact H
                                have Ny463 := Aside0.mk hy463
                                clear hy463
                                by_cases c20 : 0 ≤ (rd x8_2 x13_3)
                                · rw [if_pos c20] at H
                                  have c20b0 : decide (0 ≤ (rd x8_2 x13_3)) = true := decide_eq_true c20
                                  clear c20
                                  by_cases c21 : (rd x8_2 x13_3) < (l1.length : Int)
                                  · rw [if_pos c21] at H
                                    have c21b0 : decide ((rd x8_2 x13_3) < (l1.length : Int)) = true := decide_eq_true c21
                                    clear c21
                                    by_cases c22 : x12_3.length < 2199023255552
                                    · rw [if_pos c22] at H
                                      have LMc22 := Aside0.mk c22
                                      clear c22
                                      obtain ⟨y468, hy468⟩ : ∃ y_ : List (S44), y_ = (x12_3 ++ [(⟨(⟨(rd_T44 l1 (rd x8_2 x13_3)).f0.f0, (rd_T44 l1 (rd x8_2 x13_3)).f0.f1⟩ : S41), (⟨(rd_T44 l1 (rd x8_2 x13_3)).f1.f0, (rd_T44 l1 (rd x8_2 x13_3)).f1.f1⟩ : S41)⟩ : S44)]) := ⟨_, rfl⟩
                                      replace H : (tenetref02_Minimal.l2 k3 a0 l1 x8_2 x10_2 y463 y468 (wrap64 (x13_3 + 1))) = some (r1, r2) := by first | (rw [hy468]; with_reducible exact H) | (have H2_ := (Option.bind_some _ _).symm.trans H; rw [hy468]; with_reducible exact H2_) | (have H2_ := (Option.bind_some _ _).symm.trans H; with_reducible exact H2_) | with_reducible exact H | (rw [hy468]; exact H) | exact H
                                      have Ny468 := Aside0.mk hy468
                                      clear hy468
                                      have H' := Aside0.mk H
                                      clear H
                                      obtain ⟨Ao23, co23, eo23⟩ := Kd.R_slice HO_8.out
                                      subst eo23
                                      have p461 : 0 ≤ (x13_3 : Int) := of_decide_eq_true (by first | (with_reducible assumption) | assumption)
                                      have q461 : x13_3 < (x8_2.length : Int) := of_decide_eq_true (by first | (with_reducible assumption) | assumption)
                                      obtain ⟨ad461, e461, hx461_0⟩ := Kd.at_int (Kd.R_reads' HO_8.out).2.2 x13_3 p461 q461
                                      cases e461
                                      replace p461 := eq_true p461
                                      replace q461 := eq_true q461
                                      have p462 : 0 ≤ (x13_3 : Int) := of_decide_eq_true (by first | (with_reducible assumption) | assumption)
                                      have q462 : x13_3 < (x8_2.length : Int) := of_decide_eq_true (by first | (with_reducible assumption) | assumption)
                                      obtain ⟨ad462, e462, hx462_0⟩ := Kd.at_int (Kd.R_reads' HO_8.out).2.2 x13_3 p462 q462
                                      obtain rfl : ad461 = ad462 := (by injection e462)
                                      replace p462 := eq_true p462
                                      replace q462 := eq_true q462
                                      go_wp2_with (first | ((with_reducible refine gate_builtin (b := .append) (xs := #[.tmp 58, .tmp 63]) rfl ?_); at_builtin; refine Kd.R_append (Kd.int .i64) (w0 := w) w.heap.size rfl (.tmp 58) (.tmp 63) 25 3 (.int .i64 0) 8 rfl Try.underlying25 info3 rfl (by decide) (by omega) u11 x11_3 (rd x8_2 x13_3) [.int .i64 (rd x8_2 x13_3)] (fun k_ => (w.heap.size ≤ k_) ∧ some k_ ≠ (.slice (some ad461) x8_2.length co23 : Value).ownBlock) (fun _ => False) rfl rfl ?aP (fun _ hk => hk.elim) ?aF ?aO ?aB ?aS ?aL ?_; (case aP => exact rfl); (case aB => exact (by repeat (first | (with_reducible first | exact HB.out | apply below_alloc | apply pw_below_drewN | apply below_drew1) | exact HB.out))); (case aF => exact (fun k_ hk => ⟨(Nat.le_trans (below_size (by repeat (first | (with_reducible first | exact HB.out | apply below_alloc | apply pw_below_drewN | apply below_drew1) | exact HB.out))) hk), Kd.fresh' (Kd.R_lt (by (with_reducible repeat (first | apply Kd.R_alloc | apply Kd.R_drewN | apply Kd.R_drew)); exact HO_8.out)) k_ hk⟩)); (case aO => exact (by (with_reducible repeat (first | apply Kd.R_alloc | apply Kd.R_drewN | apply Kd.R_drew)); exact HO_11.out)); (case aS => exact (below_size (by repeat (first | (with_reducible first | exact HB.out | apply below_alloc | apply pw_below_drewN | apply below_drew1) | exact HB.out)))); (case aL => have := LMc19.out; omega); intro v464 w24 ho hb hg hat; rw [← Ny463.out] at ho; have n0_ := Aside0.mk (Kd.V_afterv (ok := (fun k_ => (P1_ k_ ∨ w.heap.size ≤ k_) ∧ some k_ ≠ (.slice (some ad461) x8_2.length co23 : Value).ownBlock ∧ some k_ ≠ (u12 : Value).ownBlock)) (by (with_reducible repeat (first | apply Kd.V_alloc | apply Kd.V_drewN | apply Kd.V_drew)); exact Kd.V_mono HO_1.out (fun _ hk => ⟨⟨hk.1, ⟨hk.2.1, hk.2.2.2⟩⟩, hk.2.2.1⟩)) hg hat); have n1_ := Aside0.mk (Kd.R_after (ok := (fun k_ => (w.heap.size ≤ k_))) (by (with_reducible repeat (first | apply Kd.R_alloc | apply Kd.R_drewN | apply Kd.R_drew)); exact HO_8.out) hg hat); have n2_ := Aside0.mk (Kd.N_afterv (ok := (fun k_ => (P1_ k_ ∨ w.heap.size ≤ k_) ∧ some k_ ≠ (.slice (some ad461) x8_2.length co23 : Value).ownBlock)) (by (with_reducible repeat (first | apply Kd.N_alloc | apply Kd.N_drewN | apply Kd.N_drew)); exact Kd.N_mono HO_12.out (fun _ hk => ⟨⟨hk.1, hk.2.1⟩, hk.2.2⟩)) hg hat); have n3_ := Aside0.mk (hb); have n4_ := Aside0.mk (ho); clear HO_1; clear HO_8; clear HO_12; clear HB; clear HO_11; have HO_1 := n0_; have HO_8 := n1_; have HO_12 := n2_; have HB := n3_; have HO465 := n4_; clear n0_ n1_ n2_ n3_ n4_; clear ho hb hg hat; have p466 : 0 ≤ (x13_3 : Int) := of_decide_eq_true (by first | (with_reducible assumption) | assumption); have q466 : x13_3 < (x8_2.length : Int) := of_decide_eq_true (by first | (with_reducible assumption) | assumption); obtain ⟨ad466, e466, hx466_0⟩ := Kd.at_int (Kd.R_reads' HO_8.out).2.2 x13_3 p466 q466; obtain rfl : ad461 = ad466 := (by injection e466); replace p466 := eq_true p466; replace q466 := eq_true q466; have p467 : 0 ≤ ((rd x8_2 x13_3) : Int) := of_decide_eq_true (by first | (with_reducible assumption) | assumption); have q467 : (rd x8_2 x13_3) < (l1.length : Int) := of_decide_eq_true (by first | (with_reducible assumption) | assumption); obtain ⟨ad467, A467_1, c467_1, A467_3, c467_3, e467, hx467_0, hx467_1, hx467_2, hx467_3, hl467_1, hi467_1, hl467_3, hi467_3⟩ := at_T44 (Kd.V_reads' HO_1.out).2.2 (rd x8_2 x13_3) p467 q467; cases e467; obtain ⟨ce467, hce467, hMe467, hcc467⟩ := Kd.V_get HO_1.out z44 (rd x8_2 x13_3) p467 (by first | exact q467 | exact of_decide_eq_true (by first | (with_reducible assumption) | assumption) | (have e_ := (Kd.V_reads' HO_1.out).1; omega)); obtain ⟨ua467_1, uc467_1, ua467_3, uc467_3, rfl, ul467_1, ge467_1, ul467_3, ge467_3⟩ := k44_openF hMe467; have hv467_1 := hcc467 1 _ rfl; rw [add_field _ _ 1 (by omega)] at hv467_1; replace hv467_1 := Option.some.inj (hv467_1.symm.trans hx467_1); injection hv467_1 with hva_ hvn_ hvc_; rw [hva_] at ge467_1; rw [hvc_] at ul467_1; have HL467_1 := Aside0.mk (show Kd.V k96 96 _ w.heap.size _ _ ((rd_T44 l1 (rd x8_2 x13_3)).f0.f1) from Kd.V_mk ul467_1 ge467_1); clear hva_ hvn_ hvc_ ge467_1 ul467_1; have hv467_3 := hcc467 3 _ rfl; rw [add_field _ _ 3 (by omega)] at hv467_3; replace hv467_3 := Option.some.inj (hv467_3.symm.trans hx467_3); injection hv467_3 with hva_ hvn_ hvc_; rw [hva_] at ge467_3; rw [hvc_] at ul467_3; have HL467_3 := Aside0.mk (show Kd.V k96 96 _ w.heap.size _ _ ((rd_T44 l1 (rd x8_2 x13_3)).f1.f1) from Kd.V_mk ul467_3 ge467_3); clear hva_ hvn_ hvc_ ge467_3 ul467_3; clear hcc467 hce467; have HR467_1 := Aside0.mk hi467_1; have HC467_1 := Aside0.mk hl467_1; clear hi467_1 hl467_1; have HR467_3 := Aside0.mk hi467_3; have HC467_3 := Aside0.mk hl467_3; clear hi467_3 hl467_3; replace p467 := eq_true p467; replace q467 := eq_true q467) | ((with_reducible refine gate_builtin (b := .append) (xs := #[.tmp 65, .tmp 73]) rfl ?_); at_builtin; refine Kd.N_append k44 (w0 := w) w.heap.size rfl (.tmp 65) (.tmp 73) 22 44 (.agg #[(.int .i64 0), (.slice none 0 0), (.int .i64 0), (.slice none 0 0)]) 64 rfl Try.underlying22 info44 rfl (by decide) (by omega) u12 x12_3 (⟨(⟨(rd_T44 l1 (rd x8_2 x13_3)).f0.f0, (rd_T44 l1 (rd x8_2 x13_3)).f0.f1⟩ : S41), (⟨(rd_T44 l1 (rd x8_2 x13_3)).f1.f0, (rd_T44 l1 (rd x8_2 x13_3)).f1.f1⟩ : S41)⟩ : S44) [.int .i64 ((rd_T44 l1 (rd x8_2 x13_3)).f0.f0), .slice A467_1 ((rd_T44 l1 (rd x8_2 x13_3)).f0.f1).length c467_1, .int .i64 ((rd_T44 l1 (rd x8_2 x13_3)).f1.f0), .slice A467_3 ((rd_T44 l1 (rd x8_2 x13_3)).f1.f1).length c467_3] (fun k_ => (P1_ k_ ∨ w.heap.size ≤ k_) ∧ some k_ ≠ (.slice (some ad461) x8_2.length co23 : Value).ownBlock ∧ some k_ ≠ (v464 : Value).ownBlock) (fun k_ => ((fun k_ => (P1_ k_ ∨ w.heap.size ≤ k_) ∧ some k_ ≠ (.slice (some ad461) x8_2.length co23 : Value).ownBlock ∧ some k_ ≠ (v464 : Value).ownBlock)) k_ ∧ some k_ ≠ (u12 : Value).ownBlock) rfl rfl ?aP (fun _ hk => hk) ?aF ?aO ?aB ?aS ?aL ?_; (case aP => exact (k44_mkF _ _ (⟨(⟨(rd_T44 l1 (rd x8_2 x13_3)).f0.f0, (rd_T44 l1 (rd x8_2 x13_3)).f0.f1⟩ : S41), (⟨(rd_T44 l1 (rd x8_2 x13_3)).f1.f0, (rd_T44 l1 (rd x8_2 x13_3)).f1.f1⟩ : S41)⟩ : S44) (Kd.V_reads' (Kd.V_mono (ok' := (fun k_ => ((fun k_ => (P1_ k_ ∨ w.heap.size ≤ k_) ∧ some k_ ≠ (.slice (some ad461) x8_2.length co23 : Value).ownBlock ∧ some k_ ≠ (v464 : Value).ownBlock)) k_ ∧ some k_ ≠ (u12 : Value).ownBlock)) (HL467_1.out) (fun k_ hk => ⟨⟨hk.1.1, ⟨hk.1.2.1, hk.2⟩⟩, hk.1.2.2⟩))).2.1 (Kd.V_F (Kd.V_mono (ok' := (fun k_ => ((fun k_ => (P1_ k_ ∨ w.heap.size ≤ k_) ∧ some k_ ≠ (.slice (some ad461) x8_2.length co23 : Value).ownBlock ∧ some k_ ≠ (v464 : Value).ownBlock)) k_ ∧ some k_ ≠ (u12 : Value).ownBlock)) (HL467_1.out) (fun k_ hk => ⟨⟨hk.1.1, ⟨hk.1.2.1, hk.2⟩⟩, hk.1.2.2⟩))) (Kd.V_reads' (Kd.V_mono (ok' := (fun k_ => ((fun k_ => (P1_ k_ ∨ w.heap.size ≤ k_) ∧ some k_ ≠ (.slice (some ad461) x8_2.length co23 : Value).ownBlock ∧ some k_ ≠ (v464 : Value).ownBlock)) k_ ∧ some k_ ≠ (u12 : Value).ownBlock)) (HL467_3.out) (fun k_ hk => ⟨⟨hk.1.1, ⟨hk.1.2.1, hk.2⟩⟩, hk.1.2.2⟩))).2.1 (Kd.V_F (Kd.V_mono (ok' := (fun k_ => ((fun k_ => (P1_ k_ ∨ w.heap.size ≤ k_) ∧ some k_ ≠ (.slice (some ad461) x8_2.length co23 : Value).ownBlock ∧ some k_ ≠ (v464 : Value).ownBlock)) k_ ∧ some k_ ≠ (u12 : Value).ownBlock)) (HL467_3.out) (fun k_ hk => ⟨⟨hk.1.1, ⟨hk.1.2.1, hk.2⟩⟩, hk.1.2.2⟩))))); (case aB => exact (by repeat (first | (with_reducible first | exact HB.out | apply below_alloc | apply pw_below_drewN | apply below_drew1) | exact HB.out))); (case aF => exact (fun k_ hk => ⟨(.inr (Nat.le_trans (below_size (by repeat (first | (with_reducible first | exact HB.out | apply below_alloc | apply pw_below_drewN | apply below_drew1) | exact HB.out))) hk)), Kd.fresh' (Kd.R_lt (by (with_reducible repeat (first | apply Kd.R_alloc | apply Kd.R_drewN | apply Kd.R_drew)); exact HO_8.out)) k_ hk, Kd.fresh' (Kd.R_lt (by (with_reducible repeat (first | apply Kd.R_alloc | apply Kd.R_drewN | apply Kd.R_drew)); exact HO465.out)) k_ hk⟩)); (case aO => exact (by (with_reducible repeat (first | apply Kd.N_alloc | apply Kd.N_drewN | apply Kd.N_drew)); exact Kd.N_mono HO_12.out (fun _ hk => ⟨hk.1.1, ⟨hk.1.2, hk.2⟩⟩))); (case aS => exact (below_size (by repeat (first | (with_reducible first | exact HB.out | apply below_alloc | apply pw_below_drewN | apply below_drew1) | exact HB.out)))); (case aL => have := LMc22.out; omega); intro v469 w25 ho hb hg hat; rw [← Ny468.out] at ho; have n0_ := Aside0.mk (Kd.V_afterv (ok := (fun k_ => (P1_ k_ ∨ w.heap.size ≤ k_) ∧ some k_ ≠ (.slice (some ad461) x8_2.length co23 : Value).ownBlock ∧ some k_ ≠ (v464 : Value).ownBlock)) (by (with_reducible repeat (first | apply Kd.V_alloc | apply Kd.V_drewN | apply Kd.V_drew)); exact Kd.V_mono HO_1.out (fun _ hk => ⟨⟨hk.1.1, ⟨hk.1.2.1, hk.2⟩⟩, hk.1.2.2⟩)) hg hat); have n1_ := Aside0.mk (Kd.R_over' (by (with_reducible repeat (first | apply Kd.R_alloc | apply Kd.R_drewN | apply Kd.R_drew)); exact HO_8.out) (Kd.N_typed (by (with_reducible repeat (first | apply Kd.N_alloc | apply Kd.N_drewN | apply Kd.N_drew)); exact HO_12.out)) (by decide) hg); have n2_ := Aside0.mk (Kd.R_over' (by (with_reducible repeat (first | apply Kd.R_alloc | apply Kd.R_drewN | apply Kd.R_drew)); exact HO465.out) (Kd.N_typed (by (with_reducible repeat (first | apply Kd.N_alloc | apply Kd.N_drewN | apply Kd.N_drew)); exact HO_12.out)) (by decide) hg); have n3_ := Aside0.mk (Kd.V_afterv (ok := (fun k_ => (P1_ k_ ∨ w.heap.size ≤ k_) ∧ some k_ ≠ (.slice (some ad461) x8_2.length co23 : Value).ownBlock ∧ some k_ ≠ (v464 : Value).ownBlock)) (by (with_reducible repeat (first | apply Kd.V_alloc | apply Kd.V_drewN | apply Kd.V_drew)); exact Kd.V_mono HL467_1.out (fun _ hk => ⟨⟨hk.1.1, ⟨hk.1.2.1, hk.2⟩⟩, hk.1.2.2⟩)) hg hat); have n4_ := Aside0.mk (Kd.V_afterv (ok := (fun k_ => (P1_ k_ ∨ w.heap.size ≤ k_) ∧ some k_ ≠ (.slice (some ad461) x8_2.length co23 : Value).ownBlock ∧ some k_ ≠ (v464 : Value).ownBlock)) (by (with_reducible repeat (first | apply Kd.V_alloc | apply Kd.V_drewN | apply Kd.V_drew)); exact Kd.V_mono HL467_3.out (fun _ hk => ⟨⟨hk.1.1, ⟨hk.1.2.1, hk.2⟩⟩, hk.1.2.2⟩)) hg hat); have n5_ := Aside0.mk (hb); have n6_ := Aside0.mk (ho); clear HO_1; clear HO_8; clear HO465; clear HL467_1; clear HL467_3; clear HB; clear HO_12; have HO_1 := n0_; have HO_8 := n1_; have HO465 := n2_; have HL467_1 := n3_; have HL467_3 := n4_; have HB := n5_; have HO470 := n6_; clear n0_ n1_ n2_ n3_ n4_ n5_ n6_; clear ho hb hg hat))
                                      go_roundg k3
                                      case measure => have := HK1.out; have := HK2.out; have := HK3.out; omega
                                      case rel => exact ⟨(y463), (y468), (wrap64 (x13_3 + 1)), (by first | rfl | (simp; done) | (simp [*]; done)), H', ⟨by have := HK1.out; have := HK2.out; have := HK3.out; omega⟩, ⟨by (with_reducible repeat (first | apply Kd.V_alloc | apply Kd.V_drewN | apply Kd.V_drew)); exact Kd.V_mono HO_1.out (fun _ hk => ⟨hk.1.1, ⟨hk.1.2.1, ⟨hk.1.2.2, hk.2⟩⟩⟩)⟩, ⟨by (with_reducible repeat (first | apply Kd.R_alloc | apply Kd.R_drewN | apply Kd.R_drew)); exact HO_8.out⟩, ⟨by (with_reducible repeat (first | apply Kd.R_alloc | apply Kd.R_drewN | apply Kd.R_drew)); exact HO465.out⟩, ⟨by (with_reducible repeat (first | apply Kd.N_alloc | apply Kd.N_drewN | apply Kd.N_drew)); exact HO470.out⟩, ⟨by repeat (first | (with_reducible first | exact HB.out | apply below_alloc | apply pw_below_drewN | apply below_drew1) | exact HB.out)⟩⟩
                                    · rw [if_neg c22] at H
                                      exact absurd H (by simp)
                                  · rw [if_neg c21] at H
                                    exact absurd H (by simp)
                                · rw [if_neg c20] at H
                                  exact absurd H (by simp)
                              · rw [if_neg c19] at H
                                exact absurd H (by simp)
                          · rw [if_neg c16] at H
                            exact absurd H (by simp)
                        · rw [if_neg c15] at H
                          have c15b0 : decide (x13_3 < (x8_2.length : Int)) = false := decide_eq_false c15
                          clear c15
                          by_cases c26 : 0 ≤ x10_2
                          · rw [if_pos c26] at H
                            have c26b0 : decide (0 ≤ x10_2) = true := decide_eq_true c26
                            clear c26
                            by_cases c27 : x10_2 < (l1.length : Int)
                            · rw [if_pos c27] at H
                              have c27b0 : decide (x10_2 < (l1.length : Int)) = true := decide_eq_true c27
                              clear c27
                              replace H := Option.bind_eq_some_iff.mp H
                              obtain ⟨t472, A280, H⟩ := H
                              replace H : (if t472 = true then (tenetref02_Minimal.l1 k3 a0 l1 x11_3 (wrap64 (x10_2 - 1))) else (tenetref02_Minimal.l1 k3 a0 l1 x8_2 (wrap64 (x10_2 - 1)))) = some (r1, r2) := H
                              have A28 := Aside0.mk A280
                              clear A280
                              by_cases c29 : t472 = true
                              · subst c29
                                have H1 : (tenetref02_Minimal.l1 k3 a0 l1 x11_3 (wrap64 (x10_2 - 1))) = some (r1, r2) := by rw [if_pos rfl] at H; exact H
                                clear H
                                have H := H1
                                clear H1
                                have H' := Aside0.mk H
                                clear H
                                obtain ⟨Ao30, co30, eo30⟩ := Kd.R_slice HO_8.out
                                subst eo30
                                have p471 : 0 ≤ (x10_2 : Int) := of_decide_eq_true (by first | (with_reducible assumption) | assumption)
                                have q471 : x10_2 < (l1.length : Int) := of_decide_eq_true (by first | (with_reducible assumption) | assumption)
                                obtain ⟨ad471, A471_1, c471_1, A471_3, c471_3, e471, hx471_0, hx471_1, hx471_2, hx471_3, hl471_1, hi471_1, hl471_3, hi471_3⟩ := at_T44 (Kd.V_reads' HO_1.out).2.2 x10_2 p471 q471
                                cases e471
                                obtain ⟨ce471, hce471, hMe471, hcc471⟩ := Kd.V_get HO_1.out z44 x10_2 p471 (by first | exact q471 | exact of_decide_eq_true (by first | (with_reducible assumption) | assumption) | (have e_ := (Kd.V_reads' HO_1.out).1; omega))
                                obtain ⟨ua471_1, uc471_1, ua471_3, uc471_3, rfl, ul471_1, ge471_1, ul471_3, ge471_3⟩ := k44_openF hMe471
                                have hv471_1 := hcc471 1 _ rfl
                                rw [add_field _ _ 1 (by omega)] at hv471_1
                                replace hv471_1 := Option.some.inj (hv471_1.symm.trans hx471_1)
                                injection hv471_1 with hva_ hvn_ hvc_
                                rw [hva_] at ge471_1
                                rw [hvc_] at ul471_1
                                have HL471_1 := Aside0.mk (show Kd.V k96 96 _ w.heap.size _ _ ((rd_T44 l1 x10_2).f0.f1) from Kd.V_mk ul471_1 ge471_1)
                                clear hva_ hvn_ hvc_ ge471_1 ul471_1
                                have hv471_3 := hcc471 3 _ rfl
                                rw [add_field _ _ 3 (by omega)] at hv471_3
                                replace hv471_3 := Option.some.inj (hv471_3.symm.trans hx471_3)
                                injection hv471_3 with hva_ hvn_ hvc_
                                rw [hva_] at ge471_3
                                rw [hvc_] at ul471_3
                                have HL471_3 := Aside0.mk (show Kd.V k96 96 _ w.heap.size _ _ ((rd_T44 l1 x10_2).f1.f1) from Kd.V_mk ul471_3 ge471_3)
                                clear hva_ hvn_ hvc_ ge471_3 ul471_3
                                clear hcc471 hce471
                                have HR471_1 := Aside0.mk hi471_1
                                have HC471_1 := Aside0.mk hl471_1
                                clear hi471_1 hl471_1
                                have HR471_3 := Aside0.mk hi471_3
                                have HC471_3 := Aside0.mk hl471_3
                                clear hi471_3 hl471_3
                                replace p471 := eq_true p471
                                replace q471 := eq_true q471
                                obtain ⟨Ao31, co31, eo31⟩ := Kd.N_slice HO_12.out
                                subst eo31
                                go_wp2_with (first | ((with_reducible refine gate_callee (f := 66) rfl ?_); refine goesL_ (some 81) rfl rfl Try.func66 (by kernel_rfl) rfl #[.int .i64 a0, .slice Ao31 x12_3.length co31, .agg #[.int .i64 ((rd_T44 l1 x10_2).f0.f0), .slice A471_1 ((rd_T44 l1 x10_2).f0.f1).length c471_1, .int .i64 ((rd_T44 l1 x10_2).f1.f0), .slice A471_3 ((rd_T44 l1 x10_2).f1.f1).length c471_3]] rfl (by (try simp only [List.map_toArray, List.map_cons, List.map_nil]); first | done | rfl | (simp only [List.length_drop, List.length_take]; rfl)) ?_; (with_reducible refine (tenetref02_follows.calls k3 a0 _ _ x12_3 ((rd_T44 l1 x10_2).f0.f0) _ _ ((rd_T44 l1 x10_2).f0.f1) ((rd_T44 l1 x10_2).f1.f0) _ _ ((rd_T44 l1 x10_2).f1.f1) true _ ?side1 ?side2 ?side3 ?side4 ?side5 ?side6 A28.out).mono ?_); (case side1 => repeat (first | exact (Kd.N_reads' HO_12.out).2.2 | (with_reducible refine Kd.C_alloc ?_ _) | (with_reducible refine Kd.C_drewN ?_ _) | (with_reducible refine Kd.C_drew ?_))); (case side2 => exact (Kd.N_reads' HO_12.out).2.1); (case side3 => repeat (first | exact (by repeat (first | (with_reducible exact HR471_1.out) | (with_reducible refine Kd.C_alloc ?_ _) | (with_reducible refine Kd.C_drewN ?_ _) | (with_reducible refine Kd.C_drew ?_) | exact HR471_1.out)) | (with_reducible refine Kd.C_alloc ?_ _) | (with_reducible refine Kd.C_drewN ?_ _) | (with_reducible refine Kd.C_drew ?_))); (case side4 => exact HC471_1.out); (case side5 => repeat (first | exact (by repeat (first | (with_reducible exact HR471_3.out) | (with_reducible refine Kd.C_alloc ?_ _) | (with_reducible refine Kd.C_drewN ?_ _) | (with_reducible refine Kd.C_drew ?_) | exact HR471_3.out)) | (with_reducible refine Kd.C_alloc ?_ _) | (with_reducible refine Kd.C_drewN ?_ _) | (with_reducible refine Kd.C_drew ?_))); (case side6 => exact HC471_3.out); rintro e w32 ⟨rfl, hb⟩; refine ⟨_, rfl, ?_⟩; have n0_ := Aside0.mk (Kd.V_below (by (with_reducible repeat (first | apply Kd.V_alloc | apply Kd.V_drewN | apply Kd.V_drew)); exact HO_1.out) hb); have n1_ := Aside0.mk (Kd.R_below (by (with_reducible repeat (first | apply Kd.R_alloc | apply Kd.R_drewN | apply Kd.R_drew)); exact HO_8.out) hb); have n2_ := Aside0.mk (Kd.R_below (by (with_reducible repeat (first | apply Kd.R_alloc | apply Kd.R_drewN | apply Kd.R_drew)); exact HO_11.out) hb); have n3_ := Aside0.mk (Kd.N_below (by (with_reducible repeat (first | apply Kd.N_alloc | apply Kd.N_drewN | apply Kd.N_drew)); exact HO_12.out) hb); have n4_ := Aside0.mk (Kd.V_below (by (with_reducible repeat (first | apply Kd.V_alloc | apply Kd.V_drewN | apply Kd.V_drew)); exact HL471_1.out) hb); have n5_ := Aside0.mk (Kd.V_below (by (with_reducible repeat (first | apply Kd.V_alloc | apply Kd.V_drewN | apply Kd.V_drew)); exact HL471_3.out) hb); have n6_ := Aside0.mk (Kd.C_below (by repeat (first | (with_reducible exact HR471_1.out) | (with_reducible refine Kd.C_alloc ?_ _) | (with_reducible refine Kd.C_drewN ?_ _) | (with_reducible refine Kd.C_drew ?_) | exact HR471_1.out)) hb); have n7_ := Aside0.mk (Kd.C_below (by repeat (first | (with_reducible exact HR471_3.out) | (with_reducible refine Kd.C_alloc ?_ _) | (with_reducible refine Kd.C_drewN ?_ _) | (with_reducible refine Kd.C_drew ?_) | exact HR471_3.out)) hb); have n8_ := Aside0.mk (below_step (by repeat (first | (with_reducible first | exact HB.out | apply below_alloc | apply pw_below_drewN | apply below_drew1) | exact HB.out)) hb); clear HO_1; clear HO_8; clear HO_11; clear HO_12; clear HL471_1; clear HL471_3; clear HR471_1; clear HR471_3; clear HB; have HO_1 := n0_; have HO_8 := n1_; have HO_11 := n2_; have HO_12 := n3_; have HL471_1 := n4_; have HL471_3 := n5_; have HR471_1 := n6_; have HR471_3 := n7_; have HB := n8_; clear n0_ n1_ n2_ n3_ n4_ n5_ n6_ n7_ n8_; (try clear hb); (try clear hb2); (try clear hk); (try clear hi)))
                                go_roundg k3
                                case measure => have := HK1.out; have := HK2.out; have := HK3.out; omega
                                case rel => exact ⟨(x11_3), (wrap64 (x10_2 - 1)), (by first | rfl | (simp; done) | (simp [*]; done)), H', ⟨by have := HK1.out; have := HK2.out; have := HK3.out; omega⟩, ⟨by (with_reducible repeat (first | apply Kd.V_alloc | apply Kd.V_drewN | apply Kd.V_drew)); exact Kd.V_mono HO_1.out (fun _ hk => ⟨hk.1, hk.2.2.1⟩)⟩, ⟨by (with_reducible repeat (first | apply Kd.R_alloc | apply Kd.R_drewN | apply Kd.R_drew)); exact Kd.R_mono HO_11.out (fun _ hk => hk.1)⟩, ⟨by repeat (first | (with_reducible first | exact HB.out | apply below_alloc | apply pw_below_drewN | apply below_drew1) | exact HB.out)⟩⟩
                              · replace c29 := Bool.eq_false_iff.mpr c29
                                subst c29
                                have H1 : (tenetref02_Minimal.l1 k3 a0 l1 x8_2 (wrap64 (x10_2 - 1))) = some (r1, r2) := by rw [if_neg (show ¬ (false = true) by decide)] at H; exact H
                                clear H
                                have H := H1
                                clear H1
                                have H' := Aside0.mk H
                                clear H
                                obtain ⟨Ao33, co33, eo33⟩ := Kd.R_slice HO_8.out
                                subst eo33
                                have p471 : 0 ≤ (x10_2 : Int) := of_decide_eq_true (by first | (with_reducible assumption) | assumption)
                                have q471 : x10_2 < (l1.length : Int) := of_decide_eq_true (by first | (with_reducible assumption) | assumption)
                                obtain ⟨ad471, A471_1, c471_1, A471_3, c471_3, e471, hx471_0, hx471_1, hx471_2, hx471_3, hl471_1, hi471_1, hl471_3, hi471_3⟩ := at_T44 (Kd.V_reads' HO_1.out).2.2 x10_2 p471 q471
                                cases e471
                                obtain ⟨ce471, hce471, hMe471, hcc471⟩ := Kd.V_get HO_1.out z44 x10_2 p471 (by first | exact q471 | exact of_decide_eq_true (by first | (with_reducible assumption) | assumption) | (have e_ := (Kd.V_reads' HO_1.out).1; omega))
                                obtain ⟨ua471_1, uc471_1, ua471_3, uc471_3, rfl, ul471_1, ge471_1, ul471_3, ge471_3⟩ := k44_openF hMe471
                                have hv471_1 := hcc471 1 _ rfl
                                rw [add_field _ _ 1 (by omega)] at hv471_1
                                replace hv471_1 := Option.some.inj (hv471_1.symm.trans hx471_1)
                                injection hv471_1 with hva_ hvn_ hvc_
                                rw [hva_] at ge471_1
                                rw [hvc_] at ul471_1
                                have HL471_1 := Aside0.mk (show Kd.V k96 96 _ w.heap.size _ _ ((rd_T44 l1 x10_2).f0.f1) from Kd.V_mk ul471_1 ge471_1)
                                clear hva_ hvn_ hvc_ ge471_1 ul471_1
                                have hv471_3 := hcc471 3 _ rfl
                                rw [add_field _ _ 3 (by omega)] at hv471_3
                                replace hv471_3 := Option.some.inj (hv471_3.symm.trans hx471_3)
                                injection hv471_3 with hva_ hvn_ hvc_
                                rw [hva_] at ge471_3
                                rw [hvc_] at ul471_3
                                have HL471_3 := Aside0.mk (show Kd.V k96 96 _ w.heap.size _ _ ((rd_T44 l1 x10_2).f1.f1) from Kd.V_mk ul471_3 ge471_3)
                                clear hva_ hvn_ hvc_ ge471_3 ul471_3
                                clear hcc471 hce471
                                have HR471_1 := Aside0.mk hi471_1
                                have HC471_1 := Aside0.mk hl471_1
                                clear hi471_1 hl471_1
                                have HR471_3 := Aside0.mk hi471_3
                                have HC471_3 := Aside0.mk hl471_3
                                clear hi471_3 hl471_3
                                replace p471 := eq_true p471
                                replace q471 := eq_true q471
                                obtain ⟨Ao34, co34, eo34⟩ := Kd.N_slice HO_12.out
                                subst eo34
                                go_wp2_with (first | ((with_reducible refine gate_callee (f := 66) rfl ?_); refine goesL_ (some 81) rfl rfl Try.func66 (by kernel_rfl) rfl #[.int .i64 a0, .slice Ao34 x12_3.length co34, .agg #[.int .i64 ((rd_T44 l1 x10_2).f0.f0), .slice A471_1 ((rd_T44 l1 x10_2).f0.f1).length c471_1, .int .i64 ((rd_T44 l1 x10_2).f1.f0), .slice A471_3 ((rd_T44 l1 x10_2).f1.f1).length c471_3]] rfl (by (try simp only [List.map_toArray, List.map_cons, List.map_nil]); first | done | rfl | (simp only [List.length_drop, List.length_take]; rfl)) ?_; (with_reducible refine (tenetref02_follows.calls k3 a0 _ _ x12_3 ((rd_T44 l1 x10_2).f0.f0) _ _ ((rd_T44 l1 x10_2).f0.f1) ((rd_T44 l1 x10_2).f1.f0) _ _ ((rd_T44 l1 x10_2).f1.f1) false _ ?side1 ?side2 ?side3 ?side4 ?side5 ?side6 A28.out).mono ?_); (case side1 => repeat (first | exact (Kd.N_reads' HO_12.out).2.2 | (with_reducible refine Kd.C_alloc ?_ _) | (with_reducible refine Kd.C_drewN ?_ _) | (with_reducible refine Kd.C_drew ?_))); (case side2 => exact (Kd.N_reads' HO_12.out).2.1); (case side3 => repeat (first | exact (by repeat (first | (with_reducible exact HR471_1.out) | (with_reducible refine Kd.C_alloc ?_ _) | (with_reducible refine Kd.C_drewN ?_ _) | (with_reducible refine Kd.C_drew ?_) | exact HR471_1.out)) | (with_reducible refine Kd.C_alloc ?_ _) | (with_reducible refine Kd.C_drewN ?_ _) | (with_reducible refine Kd.C_drew ?_))); (case side4 => exact HC471_1.out); (case side5 => repeat (first | exact (by repeat (first | (with_reducible exact HR471_3.out) | (with_reducible refine Kd.C_alloc ?_ _) | (with_reducible refine Kd.C_drewN ?_ _) | (with_reducible refine Kd.C_drew ?_) | exact HR471_3.out)) | (with_reducible refine Kd.C_alloc ?_ _) | (with_reducible refine Kd.C_drewN ?_ _) | (with_reducible refine Kd.C_drew ?_))); (case side6 => exact HC471_3.out); rintro e w35 ⟨rfl, hb⟩; refine ⟨_, rfl, ?_⟩; have n0_ := Aside0.mk (Kd.V_below (by (with_reducible repeat (first | apply Kd.V_alloc | apply Kd.V_drewN | apply Kd.V_drew)); exact HO_1.out) hb); have n1_ := Aside0.mk (Kd.R_below (by (with_reducible repeat (first | apply Kd.R_alloc | apply Kd.R_drewN | apply Kd.R_drew)); exact HO_8.out) hb); have n2_ := Aside0.mk (Kd.R_below (by (with_reducible repeat (first | apply Kd.R_alloc | apply Kd.R_drewN | apply Kd.R_drew)); exact HO_11.out) hb); have n3_ := Aside0.mk (Kd.N_below (by (with_reducible repeat (first | apply Kd.N_alloc | apply Kd.N_drewN | apply Kd.N_drew)); exact HO_12.out) hb); have n4_ := Aside0.mk (Kd.V_below (by (with_reducible repeat (first | apply Kd.V_alloc | apply Kd.V_drewN | apply Kd.V_drew)); exact HL471_1.out) hb); have n5_ := Aside0.mk (Kd.V_below (by (with_reducible repeat (first | apply Kd.V_alloc | apply Kd.V_drewN | apply Kd.V_drew)); exact HL471_3.out) hb); have n6_ := Aside0.mk (Kd.C_below (by repeat (first | (with_reducible exact HR471_1.out) | (with_reducible refine Kd.C_alloc ?_ _) | (with_reducible refine Kd.C_drewN ?_ _) | (with_reducible refine Kd.C_drew ?_) | exact HR471_1.out)) hb); have n7_ := Aside0.mk (Kd.C_below (by repeat (first | (with_reducible exact HR471_3.out) | (with_reducible refine Kd.C_alloc ?_ _) | (with_reducible refine Kd.C_drewN ?_ _) | (with_reducible refine Kd.C_drew ?_) | exact HR471_3.out)) hb); have n8_ := Aside0.mk (below_step (by repeat (first | (with_reducible first | exact HB.out | apply below_alloc | apply pw_below_drewN | apply below_drew1) | exact HB.out)) hb); clear HO_1; clear HO_8; clear HO_11; clear HO_12; clear HL471_1; clear HL471_3; clear HR471_1; clear HR471_3; clear HB; have HO_1 := n0_; have HO_8 := n1_; have HO_11 := n2_; have HO_12 := n3_; have HL471_1 := n4_; have HL471_3 := n5_; have HR471_1 := n6_; have HR471_3 := n7_; have HB := n8_; clear n0_ n1_ n2_ n3_ n4_ n5_ n6_ n7_ n8_; (try clear hb); (try clear hb2); (try clear hk); (try clear hi)))
                                go_roundg k3
                                case measure => have := HK1.out; have := HK2.out; have := HK3.out; omega
                                case rel => exact ⟨(x8_2), (wrap64 (x10_2 - 1)), (by first | rfl | (simp; done) | (simp [*]; done)), H', ⟨by have := HK1.out; have := HK2.out; have := HK3.out; omega⟩, ⟨by (with_reducible repeat (first | apply Kd.V_alloc | apply Kd.V_drewN | apply Kd.V_drew)); exact Kd.V_mono HO_1.out (fun _ hk => ⟨hk.1, hk.2.1⟩)⟩, ⟨by (with_reducible repeat (first | apply Kd.R_alloc | apply Kd.R_drewN | apply Kd.R_drew)); exact Kd.R_mono HO_8.out (fun _ hk => hk.1)⟩, ⟨by repeat (first | (with_reducible first | exact HB.out | apply below_alloc | apply pw_below_drewN | apply below_drew1) | exact HB.out)⟩⟩
                            · rw [if_neg c27] at H
                              exact absurd H (by simp)
                          · rw [if_neg c26] at H
                            exact absurd H (by simp)
                  · rw [if_neg c14] at H
                    have c14b0 : decide (0 ≤ x10_2) = false := decide_eq_false c14
                    clear c14
                    simp only [Option.some.injEq, Prod.mk.injEq] at H
                    obtain ⟨rfl, rfl⟩ := H
                    go_wp2
                    go_ret2
                    exact ⟨_, by first | rfl | (simp [errW_none, errW_some] <;> rfl) | (simp [*, errW_none, errW_some] <;> rfl), by (with_reducible repeat (first | apply Kd.R_alloc | apply Kd.R_drewN | apply Kd.R_drew)); exact HO_8.out, by repeat (first | (with_reducible first | exact HB.out | apply below_alloc | apply pw_below_drewN | apply below_drew1) | exact HB.out)⟩
      · replace c8 := Bool.eq_false_iff.mpr c8
        subst c8
        have H1 : (some (([] : List Int), 20)) = some (r1, r2) := by rw [if_neg (show ¬ (false = true) by decide)] at H; exact H
        clear H
        have H := H1
        clear H1
        simp only [Option.some.injEq, Prod.mk.injEq] at H
        obtain ⟨rfl, rfl⟩ := H
        go_enter Try.func37, Try.ntmps37
        go_wp2_with (first | ((with_reducible refine gate_callee (f := 25) rfl ?_); refine goesL_ (some 16) rfl rfl Try.func25 (by kernel_rfl) rfl #[.int .i64 a0, .slice A1 l1.length c1] rfl (by (try simp only [List.map_toArray, List.map_cons, List.map_nil]); first | done | rfl | (simp only [List.length_drop, List.length_take]; rfl)) ?_; (with_reducible refine (tenetref02_Valid.calls k a0 _ _ l1 true _ ?side1 ?side2 A3.out).mono ?_); (case side1 => repeat (first | exact (Kd.V_reads' HO1.out).2.2 | (with_reducible refine Kd.C_alloc ?_ _) | (with_reducible refine Kd.C_drewN ?_ _) | (with_reducible refine Kd.C_drew ?_))); (case side2 => exact (Kd.V_reads' HO1.out).2.1); rintro e w36 ⟨rfl, hb⟩; refine ⟨_, rfl, ?_⟩; have n0_ := Aside0.mk (Kd.V_below (by (with_reducible repeat (first | apply Kd.V_alloc | apply Kd.V_drewN | apply Kd.V_drew)); exact HO1.out) hb); have n1_ := Aside0.mk (below_step (by repeat (first | (with_reducible first | exact HB.out | apply below_alloc | apply pw_below_drewN | apply below_drew1) | exact HB.out)) hb); clear HO1; clear HB; have HO1 := n0_; have HB := n1_; clear n0_ n1_; (try clear hb); (try clear hb2); (try clear hk); (try clear hi)) | ((with_reducible refine gate_callee (f := 50) rfl ?_); refine goesL_ (some 24) rfl rfl Try.func50 (by kernel_rfl) rfl #[.int .i64 a0, .slice A1 l1.length c1] rfl (by (try simp only [List.map_toArray, List.map_cons, List.map_nil]); first | done | rfl | (simp only [List.length_drop, List.length_take]; rfl)) ?_; (with_reducible refine (tenetref02_solve.calls k a0 _ _ l1 t454 false _ ?side1 ?side2 A7.out).mono ?_); (case side1 => repeat (first | exact (Kd.V_reads' HO1.out).2.2 | (with_reducible refine Kd.C_alloc ?_ _) | (with_reducible refine Kd.C_drewN ?_ _) | (with_reducible refine Kd.C_drew ?_))); (case side2 => exact (Kd.V_reads' HO1.out).2.1); rintro e w37 ⟨v456, rfl, ho0, hb⟩; refine ⟨_, rfl, ?_⟩; have n0_ := Aside0.mk (Kd.V_elder' (by (with_reducible repeat (first | apply Kd.V_alloc | apply Kd.V_drewN | apply Kd.V_drew)); exact HO1.out) (Kd.R_base ho0) hb); have n1_ := Aside0.mk (Kd.R_lower (Kd.R_newM (M := fun k_ => (w.heap.size ≤ k_)) ho0 (below_size (by repeat (first | (with_reducible first | exact HB.out | apply below_alloc | apply pw_below_drewN | apply below_drew1) | exact HB.out))) (fun k_ h_ => h_)) (below_size (by repeat (first | (with_reducible first | exact HB.out | apply below_alloc | apply pw_below_drewN | apply below_drew1) | exact HB.out)))); have n2_ := Aside0.mk (below_step (by repeat (first | (with_reducible first | exact HB.out | apply below_alloc | apply pw_below_drewN | apply below_drew1) | exact HB.out)) hb); clear HO1; clear HB; have HO1 := n0_; have HO457 := n1_; have HB := n2_; clear n0_ n1_ n2_; (try clear hb); (try clear hb2); (try clear hk); (try clear hi); (try clear ho0)))
        go_ret2
        exact ⟨_, by first | rfl | (simp [errW_none, errW_some] <;> rfl) | (simp [*, errW_none, errW_some] <;> rfl), by first | exact Kd.R_nil _ _ _ _ _ | exact Kd.N_nil _ _ _ _ _ | exact Kd.V_nil _ _ _ _ _ | exact Kd.Q_nil _ _ _ _ _ | exact Kd.S_nil _ _ _ _ _, by repeat (first | (with_reducible first | exact HB.out | apply below_alloc | apply pw_below_drewN | apply below_drew1) | exact HB.out)⟩
  · replace c4 := Bool.eq_false_iff.mpr c4
    subst c4
    have H1 : (some (([] : List Int), 4)) = some (r1, r2) := by rw [if_neg (show ¬ (false = true) by decide)] at H; exact H
    clear H
    have H := H1
    clear H1
    simp only [Option.some.injEq, Prod.mk.injEq] at H
    obtain ⟨rfl, rfl⟩ := H
    go_enter Try.func37, Try.ntmps37
    go_wp2_with (first | ((with_reducible refine gate_callee (f := 25) rfl ?_); refine goesL_ (some 16) rfl rfl Try.func25 (by kernel_rfl) rfl #[.int .i64 a0, .slice A1 l1.length c1] rfl (by (try simp only [List.map_toArray, List.map_cons, List.map_nil]); first | done | rfl | (simp only [List.length_drop, List.length_take]; rfl)) ?_; (with_reducible refine (tenetref02_Valid.calls k a0 _ _ l1 false _ ?side1 ?side2 A3.out).mono ?_); (case side1 => repeat (first | exact (Kd.V_reads' HO1.out).2.2 | (with_reducible refine Kd.C_alloc ?_ _) | (with_reducible refine Kd.C_drewN ?_ _) | (with_reducible refine Kd.C_drew ?_))); (case side2 => exact (Kd.V_reads' HO1.out).2.1); rintro e w38 ⟨rfl, hb⟩; refine ⟨_, rfl, ?_⟩; have n0_ := Aside0.mk (Kd.V_below (by (with_reducible repeat (first | apply Kd.V_alloc | apply Kd.V_drewN | apply Kd.V_drew)); exact HO1.out) hb); have n1_ := Aside0.mk (below_step (by repeat (first | (with_reducible first | exact HB.out | apply below_alloc | apply pw_below_drewN | apply below_drew1) | exact HB.out)) hb); clear HO1; clear HB; have HO1 := n0_; have HB := n1_; clear n0_ n1_; (try clear hb); (try clear hb2); (try clear hk); (try clear hi)))
    go_ret2
    exact ⟨_, by first | rfl | (simp [errW_none, errW_some] <;> rfl) | (simp [*, errW_none, errW_some] <;> rfl), by first | exact Kd.R_nil _ _ _ _ _ | exact Kd.N_nil _ _ _ _ _ | exact Kd.V_nil _ _ _ _ _ | exact Kd.Q_nil _ _ _ _ _ | exact Kd.S_nil _ _ _ _ _, by repeat (first | (with_reducible first | exact HB.out | apply below_alloc | apply pw_below_drewN | apply below_drew1) | exact HB.out)⟩

end Go.Proofs.Ytegejpcglabhbaa.G
