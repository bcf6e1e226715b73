-- PRINTED BY print.sh 35421559b90ae4d0a3588c463048766b98c2df88dd9212a6774a882060cdf62d: not written by this session
import Derived.Test.YtlidibbdacohaaaPRingEqualsx0
import Derived.Test.YtlidibbdacohaaaPRingEqualsxf100
import Derived.Test.YtlidibbdacohaaaPRingEqualsxf102
namespace Go.Proofs.Ytlidibbdacohaaa.PRingEquals
open Go.RowKit Go.Proofs.YtlidibbdacohaaaW.PrintWords Go.Proofs.YtlidibbdacohaaaW.PrintLast Go.Proofs.YtlidibbdacohaaaW.PrintMore
attribute [local go_sem] max2_int min2_int max_two min_two max_three min_three max_four min_four   -- for this text's walks alone
set_option linter.unusedVariables false
set_option linter.unusedSimpArgs false

/-! ### tenetref24_mul: function 82 -/
mutual
def tenetref24_mul.l0 : Nat → List (S74) → List (S74) → List (S74) → Int → Option ((List (S74)) × Bool)
  | 0, _, _, _, _ => none
  | k + 1, x0, x1, x6, x7 => if x7 < (x0.length : Int) then (tenetref24_mul.l1 k x0 x1 x6 x7 0) else (some (x6, decide ((x6.length : Int) ≤ 200)))
def tenetref24_mul.l1 : Nat → List (S74) → List (S74) → List (S74) → Int → Int → Option ((List (S74)) × Bool)
  | 0, _, _, _, _, _ => none
  | k + 1, x0, x1, x6, x7, x8 => if x8 < (x1.length : Int) then (if 0 ≤ x7 then (if x7 < (x0.length : Int) then (if 0 ≤ x8 then ((tenetref24_times.f k ((rd_T74 x0 x7).f0) ((rd_T74 x0 x7).f1) ((rd_T74 x1 x8).f0) ((rd_T74 x1 x8).f1)).bind fun bt298 => (if bt298.2.2 = true then ((tenetref24_into.f k x6 bt298.1 bt298.2.1).bind fun bt304 => (if bt304.2 = true then (tenetref24_mul.l1 k x0 x1 bt304.1 x7 (wrap64 (x8 + 1))) else (some (([] : List (S74)), false)))) else (some (([] : List (S74)), false)))) else (none)) else (none)) else (none)) else (tenetref24_mul.l0 k x0 x1 x6 (wrap64 (x7 + 1)))
end
def tenetref24_mul.f (k : Nat) (l0 : List (S74)) (l1 : List (S74)) : Option ((List (S74)) × Bool) := tenetref24_mul.l0 k l0 l1 ([] : List (S74)) 0
theorem tenetref24_mul.mono_l : ∀ k, (∀ y0 y1 y2 y3, LeO (tenetref24_mul.l0 k y0 y1 y2 y3) (tenetref24_mul.l0 (k + 1) y0 y1 y2 y3)) ∧ (∀ y0 y1 y2 y3 y4, LeO (tenetref24_mul.l1 k y0 y1 y2 y3 y4) (tenetref24_mul.l1 (k + 1) y0 y1 y2 y3 y4))
  | 0 => ⟨fun _ _ _ _ r h => by simp [tenetref24_mul.l0] at h, fun _ _ _ _ _ r h => by simp [tenetref24_mul.l1] at h⟩
  | k + 1 => by
    obtain ⟨ih0, ih1⟩ := tenetref24_mul.mono_l k
    refine ⟨?_, ?_⟩
    · intro y0 y1 y2 y3
      unfold tenetref24_mul.l0
      repeat' first
      | (with_reducible exact ih0 _ _ _ _)
      | (with_reducible exact ih1 _ _ _ _ _)
      | (with_reducible exact tenetref24_into.mono _ _ _ _)
      | (with_reducible exact tenetref24_times.mono _ _ _ _ _)
      | (with_reducible exact LeO.refl _)
      | (with_reducible exact LeO.none _)
      | (with_reducible refine LeO.ite ?_ ?_)
      | (with_reducible refine LeO.bind ?_ (fun _ => ?_))
      | exact ih0 _ _ _ _
      | exact ih1 _ _ _ _ _
      | exact tenetref24_into.mono _ _ _ _
      | exact tenetref24_times.mono _ _ _ _ _
      | exact LeO.none _
      | refine LeO.ite ?_ ?_
      | refine LeO.bind ?_ (fun _ => ?_)
    · intro y0 y1 y2 y3 y4
      unfold tenetref24_mul.l1
      repeat' first
      | (with_reducible exact ih0 _ _ _ _)
      | (with_reducible exact ih1 _ _ _ _ _)
      | (with_reducible exact tenetref24_into.mono _ _ _ _)
      | (with_reducible exact tenetref24_times.mono _ _ _ _ _)
      | (with_reducible exact LeO.refl _)
      | (with_reducible exact LeO.none _)
      | (with_reducible refine LeO.ite ?_ ?_)
      | (with_reducible refine LeO.bind ?_ (fun _ => ?_))
      | exact ih0 _ _ _ _
      | exact ih1 _ _ _ _ _
      | exact tenetref24_into.mono _ _ _ _
      | exact tenetref24_times.mono _ _ _ _ _
      | exact LeO.none _
      | refine LeO.ite ?_ ?_
      | refine LeO.bind ?_ (fun _ => ?_)
theorem tenetref24_mul.mono : ∀ a0 a1 k, LeO (tenetref24_mul.f k a0 a1) (tenetref24_mul.f (k + 1) a0 a1) := by
  intro a0 a1 k
  obtain ⟨ih0, ih1⟩ := tenetref24_mul.mono_l k
  unfold tenetref24_mul.f
  repeat' first
      | (with_reducible exact ih0 _ _ _ _)
      | (with_reducible exact ih1 _ _ _ _ _)
      | (with_reducible exact tenetref24_into.mono _ _ _ _)
      | (with_reducible exact tenetref24_times.mono _ _ _ _ _)
      | (with_reducible exact LeO.refl _)
      | (with_reducible exact LeO.none _)
      | (with_reducible refine LeO.ite ?_ ?_)
      | (with_reducible refine LeO.bind ?_ (fun _ => ?_))
      | exact ih0 _ _ _ _
      | exact ih1 _ _ _ _ _
      | exact tenetref24_into.mono _ _ _ _
      | exact tenetref24_times.mono _ _ _ _ _
      | exact LeO.none _
      | refine LeO.ite ?_ ?_
      | refine LeO.bind ?_ (fun _ => ?_)
def tenetref24_mul.T8 : Bool × List (List Nat × List Nat) := (true, [([], []), ([], []), ([0, 1], [0, 1]), ([2], [2]), ([], []), ([], []), ([4, 5], [4, 5]), ([6], [6]), ([3, 7], [3, 7]), ([8], [8]), ([9], [9]), ([9], [9]), ([], []), ([12, 10, 8, 0, 1, 2, 3, 4, 5, 6, 7, 8, 9, 10, 12], [10, 12]), ([11, 13, 0, 1, 2, 3, 4, 5, 6, 7, 8, 9, 10, 11, 12, 13], [11])])
def tenetref24_mul.B8 : List Nat := [0, 0, 3, 7, 0, 0, 48, 112, 255, 511, 1023, 1023, 0, 6143, 16383]
theorem tenetref24_mul.tab8 : rtab .any (opsOf Try.f82 8) = tenetref24_mul.T8 := by kernel_rfl
theorem tenetref24_mul.bits8 : waitsOk tenetref24_mul.T8.2 tenetref24_mul.B8 = true := by kernel_rfl
set_option maxHeartbeats 8000000 in
set_option maxRecDepth 100000 in
theorem tenetref24_mul.calls (k : Nat) (A0 : Option Addr) (c0 : Nat) (l0 : List (S74)) (A1 : Option Addr) (c1 : Nat) (l1 : List (S74)) (r1 : List (S74)) (r2 : Bool) (w : World) (hr0 : Kd.C k74 w A0 l0.length l0) (hc0 : l0.length ≤ c0) (hr1 : Kd.C k74 w A1 l1.length l1) (hc1 : l1.length ≤ c1) (h : tenetref24_mul.f k l0 l1 = some (r1, r2)) :
    Calls Try.prog 82 #[.slice A0 l0.length c0, .slice A1 l1.length c1] w fun e w' => ∃ v0_ : Value, e = .returned (.tuple #[v0_, .bool r2]) ∧ Kd.N k74 74 w' w.heap.size (fun k_ => (w.heap.size ≤ k_)) v0_ r1 ∧ Below w.heap.size w w' := by
  have hu74 := Try.underlying74
  have HR0 := Aside0.mk hr0
  have HC0 := Aside0.mk hc0
  clear hr0 hc0
  have HR1 := Aside0.mk hr1
  have HC1 := Aside0.mk hc1
  clear hr1 hc1
  have HB := Aside0.mk (Below.refl w.heap.size w)
  have H : (tenetref24_mul.l0 k l0 l1 ([] : List (S74)) 0) = some (r1, r2) := h
  clear h
  have H' := Aside0.mk H
  clear H
  go_enter Try.func82, Try.ntmps82
  go_wp2
  go_loopg [6, 7] k (fun kq v6 v7 w' => ∃ (x6_1 : List (S74)) (x7_1 : Int), v7 = .int .i64 x7_1 ∧ Aside0 (tenetref24_mul.l0 kq l0 l1 x6_1 x7_1 = some (r1, r2)) ∧ Aside0 (kq ≤ k) ∧ Aside0 (Kd.N k74 74 w' w.heap.size (fun k_ => (w.heap.size ≤ k_)) v6 x6_1) ∧ Aside0 (Below w.heap.size w w'))
  case atStart => exact ⟨(([] : List (S74))), (0), (by first | rfl | (simp; done) | (simp [*]; done)), H', ⟨Nat.le_refl _⟩, ⟨by first | exact Kd.S_nil _ _ _ _ _ | exact Kd.N_nil _ _ _ _ _ | exact Kd.V_nil _ _ _ _ _ | exact Kd.Q_nil _ _ _ _ _ | exact Kd.R_nil _ _ _ _ _⟩, ⟨by repeat (first | (with_reducible first | exact HB.out | apply below_alloc | apply pw_below_drewN | apply below_drew1) | exact HB.out)⟩⟩
  case round =>
    clear H'
    try clear c1
    try clear p2
    obtain ⟨x6_1, x7_1, rfl, HA, HK1, HO_6, HB⟩ := hrel
    cases gk with
    | zero => exact absurd HA.out (by simp [tenetref24_mul.l0])
    | succ k1 =>
      have H := HA.out
      clear HA
      simp only [tenetref24_mul.l0] at H
      by_cases c3 : x7_1 < (l0.length : Int)
      · rw [if_pos c3] at H
        have c3b0 : decide (x7_1 < (l0.length : Int)) = true := decide_eq_true c3
        clear c3
        have H' := Aside0.mk H
        clear H
        go_wp2
        go_loopg [6, 8] k1 (fun kq v6 v8 w' => ∃ (x6_2 : List (S74)) (x8_2 : Int), v8 = .int .i64 x8_2 ∧ Aside0 (tenetref24_mul.l1 kq l0 l1 x6_2 x7_1 x8_2 = some (r1, r2)) ∧ Aside0 (kq ≤ k1) ∧ Aside0 (Kd.N k74 74 w' w.heap.size (fun k_ => (w.heap.size ≤ k_)) v6 x6_2) ∧ Aside0 (Below w.heap.size w w'))
        case atStart => exact ⟨(x6_1), (0), (by first | rfl | (simp; done) | (simp [*]; done)), H', ⟨Nat.le_refl _⟩, ⟨by (with_reducible repeat (first | apply Kd.N_alloc | apply Kd.N_drewN | apply Kd.N_drew)); exact HO_6.out⟩, ⟨by repeat (first | (with_reducible first | exact HB.out | apply below_alloc | apply pw_below_drewN | apply below_drew1) | exact HB.out)⟩⟩
        case round =>
          clear H'
          try clear c1
          try clear p2
          try clear c3
          try clear c3b0
          try clear p2
          obtain ⟨x6_2, x8_2, rfl, HA, HK2, HO_6, HB⟩ := hrel
          cases gk with
          | zero => exact absurd HA.out (by simp [tenetref24_mul.l1])
          | succ k2 =>
            have H := HA.out
            clear HA
            simp only [tenetref24_mul.l1] at H
            by_cases c4 : x8_2 < (l1.length : Int)
            · rw [if_pos c4] at H
              have c4b0 : decide (x8_2 < (l1.length : Int)) = true := decide_eq_true c4
              clear c4
              by_cases c5 : 0 ≤ x7_1
              · rw [if_pos c5] at H
                have c5b0 : decide (0 ≤ x7_1) = true := decide_eq_true c5
                clear c5
                by_cases c6 : x7_1 < (l0.length : Int)
                · rw [if_pos c6] at H
                  have c6b0 : decide (x7_1 < (l0.length : Int)) = true := decide_eq_true c6
                  clear c6
                  by_cases c7 : 0 ≤ x8_2
                  · rw [if_pos c7] at H
                    have c7b0 : decide (0 ≤ x8_2) = true := decide_eq_true c7
                    clear c7
                    replace H := Option.bind_eq_some_iff.mp H
                    obtain ⟨⟨t298, t299, t302⟩, A80, H⟩ := H
                    replace H : (if t302 = true then ((tenetref24_into.f k2 x6_2 t298 t299).bind fun bt304 => (if bt304.2 = true then (tenetref24_mul.l1 k2 l0 l1 bt304.1 x7_1 (wrap64 (x8_2 + 1))) else (some (([] : List (S74)), false)))) else (some (([] : List (S74)), false))) = some (r1, r2) := H
                    have A8 := Aside0.mk A80
                    clear A80
                    by_cases c9 : t302 = true
                    · subst c9
                      have H1 : ((tenetref24_into.f k2 x6_2 t298 t299).bind fun bt304 => (if bt304.2 = true then (tenetref24_mul.l1 k2 l0 l1 bt304.1 x7_1 (wrap64 (x8_2 + 1))) else (some (([] : List (S74)), false)))) = some (r1, r2) := by rw [if_pos rfl] at H; exact H
                      clear H
                      have H := H1
                      clear H1
                      replace H := Option.bind_eq_some_iff.mp H
                      obtain ⟨⟨t304, t307⟩, A100, H⟩ := H
                      replace H : (if t307 = true then (tenetref24_mul.l1 k2 l0 l1 t304 x7_1 (wrap64 (x8_2 + 1))) else (some (([] : List (S74)), false))) = some (r1, r2) := H
                      have A10 := Aside0.mk A100
                      clear A100
                      by_cases c11 : t307 = true
                      · subst c11
                        have H1 : (tenetref24_mul.l1 k2 l0 l1 t304 x7_1 (wrap64 (x8_2 + 1))) = some (r1, r2) := by rw [if_pos rfl] at H; exact H
                        clear H
                        have H := H1
                        clear H1
                        have H' := Aside0.mk H
                        clear H
                        try go_wp2
                        have n0_ := Aside0.mk (Kd.N_drew HO_6.out)
                        have n1_ := Aside0.mk (below_drew1 HB.out)
                        clear HO_6
                        clear HB
                        have HO_6 := n0_
                        have HB := n1_
                        clear n0_ n1_
                        have p296 : 0 ≤ (x7_1 : Int) := of_decide_eq_true (by first | (with_reducible assumption) | assumption)
                        have q296 : x7_1 < (l0.length : Int) := of_decide_eq_true (by first | (with_reducible assumption) | assumption)
                        obtain ⟨ad296, A296_1, c296_1, e296, hx296_0, hx296_1, hl296_1, hi296_1⟩ := at_T74 HR0.out x7_1 p296 q296
                        have hw296_1 := hx296_1
                        have hw296_0 := hx296_0
                        cases e296
                        replace hx296_0 := (HB.out.cell (World.block_lt_of_cell? w _ hx296_0)).trans hx296_0
                        replace hx296_1 := (HB.out.cell (World.block_lt_of_cell? w _ hx296_1)).trans hx296_1
                        have HR296_1 := Aside0.mk hi296_1
                        have HC296_1 := Aside0.mk hl296_1
                        clear hi296_1 hl296_1
                        replace p296 := eq_true p296
                        replace q296 := eq_true q296
                        have p297 : 0 ≤ (x8_2 : Int) := of_decide_eq_true (by first | (with_reducible assumption) | assumption)
                        have q297 : x8_2 < (l1.length : Int) := of_decide_eq_true (by first | (with_reducible assumption) | assumption)
                        obtain ⟨ad297, A297_1, c297_1, e297, hx297_0, hx297_1, hl297_1, hi297_1⟩ := at_T74 HR1.out x8_2 p297 q297
                        have hw297_1 := hx297_1
                        have hw297_0 := hx297_0
                        cases e297
                        replace hx297_0 := (HB.out.cell (World.block_lt_of_cell? w _ hx297_0)).trans hx297_0
                        replace hx297_1 := (HB.out.cell (World.block_lt_of_cell? w _ hx297_1)).trans hx297_1
                        have HR297_1 := Aside0.mk hi297_1
                        have HC297_1 := Aside0.mk hl297_1
                        clear hi297_1 hl297_1
                        replace p297 := eq_true p297
                        replace q297 := eq_true q297
                        refine start_ (n := 15) (S := fun w' => w'.cell? (ad296.add ((x7_1).toNat * 2)) = some (.int .i64 ((rd_T74 l0 x7_1).f0)) ∧ w'.cell? ⟨(ad296.add ((x7_1).toNat * 2)).block, (ad296.add ((x7_1).toNat * 2)).off + 1, none⟩ = some (.slice A296_1 ((rd_T74 l0 x7_1).f1).length c296_1) ∧ w'.cell? (ad297.add ((x8_2).toNat * 2)) = some (.int .i64 ((rd_T74 l1 x8_2).f0)) ∧ w'.cell? ⟨(ad297.add ((x8_2).toNat * 2)).block, (ad297.add ((x8_2).toNat * 2)).off + 1, none⟩ = some (.slice A297_1 ((rd_T74 l1 x8_2).f1).length c297_1)) (ds := []) #[false, false, false, false, false, false, false, false, false, false, false, false, false, false, false] (by kernel_rfl) rfl rfl ⟨((HB.out.cell (World.block_lt_of_cell? w _ hw296_0)).trans hw296_0), ((HB.out.cell (World.block_lt_of_cell? w _ hw296_1)).trans hw296_1), ((HB.out.cell (World.block_lt_of_cell? w _ hw297_0)).trans hw297_0), ((HB.out.cell (World.block_lt_of_cell? w _ hw297_1)).trans hw297_1)⟩ (fun hHeld => ?_); refine with_tabW tenetref24_mul.tab8 tenetref24_mul.bits8 (fun HT_ HW_ => ?_)
                        generalize wr.drew = w12 at HO_6 HB HR296_1 HR297_1 hx296_0 hx296_1 hx297_0 hx297_1 hHeld ⊢
                        refine pure_ (i := 0) (N := some 26) (v := ?_) (a' := ?_) #[true, false, false, false, false, false, false, false, false, false, false, false, false, false, false] rfl rfl (any_of HT_.out (by kernel_rfl)) (fun _ _ _ h => h) (Or.inl ⟨by rfl, ?_⟩) ?_ ?_
                        rotate_left
                        · intro w'
                          go_simp
                          with_reducible rfl
                        rotate_left
                        · simp only [Act.put, List.setIfInBounds_toArray, List.set_cons_zero, List.set_cons_succ, i64_w, i32_w]
                          rfl
                        refine pure_ (i := 1) (N := some 27) (v := ?_) (a' := ?_) #[true, true, false, false, false, false, false, false, false, false, false, false, false, false, false] rfl rfl (any_of HT_.out (by kernel_rfl)) (fun _ _ _ h => h) (Or.inl ⟨by rfl, ?_⟩) ?_ ?_
                        rotate_left
                        · intro w'
                          go_simp
                          with_reducible rfl
                        rotate_left
                        · simp only [Act.put, List.setIfInBounds_toArray, List.set_cons_zero, List.set_cons_succ, i64_w, i32_w]
                          rfl
                        refine pure_ (i := 2) (N := some 28) (v := ?_) (a' := ?_) #[true, true, true, false, false, false, false, false, false, false, false, false, false, false, false] rfl rfl (any_of HT_.out (by kernel_rfl)) (fun _ _ _ h => h) (Or.inl ⟨by rfl, ?_⟩) ?_ ?_
                        rotate_left
                        · intro w'
                          go_simp
                          with_reducible rfl
                        rotate_left
                        · simp only [Act.put, List.setIfInBounds_toArray, List.set_cons_zero, List.set_cons_succ, i64_w, i32_w]
                          rfl
                        refine pure_ (i := 4) (N := some 30) (v := ?_) (a' := ?_) #[true, true, true, false, true, false, false, false, false, false, false, false, false, false, false] rfl rfl (any_of HT_.out (by kernel_rfl)) (fun _ _ _ h => h) (Or.inl ⟨by rfl, ?_⟩) ?_ ?_
                        rotate_left
                        · intro w'
                          go_simp
                          with_reducible rfl
                        rotate_left
                        · simp only [Act.put, List.setIfInBounds_toArray, List.set_cons_zero, List.set_cons_succ, i64_w, i32_w]
                          rfl
                        refine pure_ (i := 5) (N := some 31) (v := ?_) (a' := ?_) #[true, true, true, false, true, true, false, false, false, false, false, false, false, false, false] rfl rfl (any_of HT_.out (by kernel_rfl)) (fun _ _ _ h => h) (Or.inl ⟨by rfl, ?_⟩) ?_ ?_
                        rotate_left
                        · intro w'
                          go_simp
                          with_reducible rfl
                        rotate_left
                        · simp only [Act.put, List.setIfInBounds_toArray, List.set_cons_zero, List.set_cons_succ, i64_w, i32_w]
                          rfl
                        refine pure_ (i := 6) (N := some 32) (v := ?_) (a' := ?_) #[true, true, true, false, true, true, true, false, false, false, false, false, false, false, false] rfl rfl (any_of HT_.out (by kernel_rfl)) (fun _ _ _ h => h) (Or.inl ⟨by rfl, ?_⟩) ?_ ?_
                        rotate_left
                        · intro w'
                          go_simp
                          with_reducible rfl
                        rotate_left
                        · simp only [Act.put, List.setIfInBounds_toArray, List.set_cons_zero, List.set_cons_succ, i64_w, i32_w]
                          rfl
                        refine take_ (i := 3) (N := some 29) (v := ?_) (a' := ?_) #[true, true, true, true, true, true, true, false, false, false, false, false, false, false, false] rfl rfl (take_ofW HT_.out HW_.out (by kernel_rfl)) (fun _ _ _ h => h) (Or.inl ⟨by rfl, ?_⟩) hHeld ?_ ?_
                        rotate_left
                        · rintro w' ⟨s0, s1, s2, s3⟩
                          go_simp
                          with_reducible rfl
                        rotate_left
                        · simp only [Act.put, List.setIfInBounds_toArray, List.set_cons_zero, List.set_cons_succ, i64_w, i32_w]
                          rfl
                        refine take_ (i := 7) (N := some 33) (v := ?_) (a' := ?_) #[true, true, true, true, true, true, true, true, false, false, false, false, false, false, false] rfl rfl (take_ofW HT_.out HW_.out (by kernel_rfl)) (fun _ _ _ h => h) (Or.inl ⟨by rfl, ?_⟩) hHeld ?_ ?_
                        rotate_left
                        · rintro w' ⟨s0, s1, s2, s3⟩
                          go_simp
                          with_reducible rfl
                        rotate_left
                        · simp only [Act.put, List.setIfInBounds_toArray, List.set_cons_zero, List.set_cons_succ, i64_w, i32_w]
                          rfl
                        refine join_ (σ := Value × Nat) 2 #[true, true, true, true, true, true, true, true, true, true, true, true, true, false, false] (fun s_ => [(34, .tuple #[.agg #[.int .i64 t298, s_.1], .bool true]), (9, .pointer (some ⟨s_.2, 0, none⟩)), (25, .tuple #[.agg #[.int .i64 t298, s_.1], .bool true]), (35, .agg #[.int .i64 t298, s_.1]), (36, .bool true)]) (fun s_ w' => (w'.cell? (ad296.add ((x7_1).toNat * 2)) = some (.int .i64 ((rd_T74 l0 x7_1).f0)) ∧ w'.cell? ⟨(ad296.add ((x7_1).toNat * 2)).block, (ad296.add ((x7_1).toNat * 2)).off + 1, none⟩ = some (.slice A296_1 ((rd_T74 l0 x7_1).f1).length c296_1) ∧ w'.cell? (ad297.add ((x8_2).toNat * 2)) = some (.int .i64 ((rd_T74 l1 x8_2).f0)) ∧ w'.cell? ⟨(ad297.add ((x8_2).toNat * 2)).block, (ad297.add ((x8_2).toNat * 2)).off + 1, none⟩ = some (.slice A297_1 ((rd_T74 l1 x8_2).f1).length c297_1)) ∧ (Kd.R (Kd.int .i64) 3 w' w.heap.size (fun k_ => (w.heap.size ≤ k_)) s_.1 t299) ∧ (Kd.N k74 74 w' w.heap.size (fun k_ => (w.heap.size ≤ k_) ∧ some k_ ≠ (s_.1 : Value).ownBlock ∧ k_ ≠ s_.2) u6 x6_2) ∧ (w'.heap[s_.2]? = some (.cells #[.int .i64 0, .slice none 0 0] 74 (0, 0))) ∧ (w.heap.size ≤ s_.2) ∧ (w.heap.size ≤ s_.2) ∧ (Below w.heap.size w w')) ?_ ?_
                        rotate_left
                        · intro hCont
                          refine two_ (i := 8) (j := 12) (Ni := some 34) (Nj := some 9) #[true, true, true, true, true, true, true, true, true, false, false, false, false, false, false] #[true, true, true, true, true, true, true, true, false, false, false, false, true, false, false] rfl rfl rfl rfl (two_of HT_.out (by kernel_rfl)) (by decide) (by decide) (fun K hK => ?_) (fun K hK => ?_)
                          · skip
                            refine goes_ Try.func102 (by kernel_rfl) rfl #[.agg #[.int .i64 ((rd_T74 l0 x7_1).f0), .slice A296_1 ((rd_T74 l0 x7_1).f1).length c296_1], .agg #[.int .i64 ((rd_T74 l1 x8_2).f0), .slice A297_1 ((rd_T74 l1 x8_2).f1).length c297_1]] (by rfl) rfl rfl (by (try simp only [List.map_toArray, List.map_cons, List.map_nil]); first | done | rfl | (simp only [List.length_drop, List.length_take]; rfl)) ?_
                            with_reducible refine (tenetref24_times.calls k2 ((rd_T74 l0 x7_1).f0) _ _ ((rd_T74 l0 x7_1).f1) ((rd_T74 l1 x8_2).f0) _ _ ((rd_T74 l1 x8_2).f1) t298 t299 true _ ?side1 ?side2 ?side3 ?side4 A8.out).mono ?_
                            (case side1 => repeat (first | exact (Kd.C_below HR296_1.out HB.out) | (with_reducible refine Kd.C_alloc ?_ _) | (with_reducible refine Kd.C_drewN ?_ _) | (with_reducible refine Kd.C_drew ?_)))
                            (case side2 => exact HC296_1.out)
                            (case side3 => repeat (first | exact (Kd.C_below HR297_1.out HB.out) | (with_reducible refine Kd.C_alloc ?_ _) | (with_reducible refine Kd.C_drewN ?_ _) | (with_reducible refine Kd.C_drew ?_)))
                            (case side4 => exact HC297_1.out)
                            rintro e w13 ⟨v300, rfl, ho0, hb⟩
                            refine ⟨_, rfl, ?_⟩
                            have n0_ := Aside0.mk (Kd.N_elder' (by (with_reducible repeat (first | apply Kd.N_alloc | apply Kd.N_drewN | apply Kd.N_drew)); exact HO_6.out) (Kd.R_base ho0) hb)
                            have n1_ := Aside0.mk (Kd.R_lower (Kd.R_newM (M := fun k_ => (w.heap.size ≤ k_)) ho0 (below_size (by repeat (first | (with_reducible first | exact HB.out | apply below_alloc | apply pw_below_drewN | apply below_drew1) | exact HB.out))) (fun k_ h_ => h_)) (below_size (by repeat (first | (with_reducible first | exact HB.out | apply below_alloc | apply pw_below_drewN | apply below_drew1) | exact HB.out))))
                            have n2_ := Aside0.mk (below_step (by repeat (first | (with_reducible first | exact HB.out | apply below_alloc | apply pw_below_drewN | apply below_drew1) | exact HB.out)) hb)
                            clear HO_6
                            clear HB
                            have HO_6 := n0_
                            have HO301 := n1_
                            have HB := n2_
                            clear n0_ n1_ n2_
                            (try clear hb)
                            (try clear hb2)
                            (try clear hk)
                            (try clear hi)
                            (try clear ho0)
                            refine hK.out _ _ ⟨((HB.out.cell (World.block_lt_of_cell? w _ hw296_0)).trans hw296_0), ((HB.out.cell (World.block_lt_of_cell? w _ hw296_1)).trans hw296_1), ((HB.out.cell (World.block_lt_of_cell? w _ hw297_0)).trans hw297_0), ((HB.out.cell (World.block_lt_of_cell? w _ hw297_1)).trans hw297_1)⟩ (fun hHeld => ?_)
                            clear hK K
                            refine norm_ (a' := ?_) ?_ ?_
                            rotate_left
                            · show Act.put _ (some 34) _ = _
                              simp only [Act.put, List.setIfInBounds_toArray, List.set_cons_zero, List.set_cons_succ, i64_w, i32_w]
                              rfl
                            refine pure_ (i := 9) (N := some 25) (v := ?_) (a' := ?_) #[true, true, true, true, true, true, true, true, true, true, false, false, false, false, false] rfl rfl (any_of HT_.out (by kernel_rfl)) (fun _ _ _ h => h) (Or.inl ⟨by rfl, ?_⟩) ?_ ?_
                            rotate_left
                            · intro w'
                              go_simp
                              with_reducible rfl
                            rotate_left
                            · simp only [Act.put, List.setIfInBounds_toArray, List.set_cons_zero, List.set_cons_succ, i64_w, i32_w]
                              rfl
                            refine pure_ (i := 10) (N := some 35) (v := ?_) (a' := ?_) #[true, true, true, true, true, true, true, true, true, true, true, false, false, false, false] rfl rfl (any_of HT_.out (by kernel_rfl)) (fun _ _ _ h => h) (Or.inl ⟨by rfl, ?_⟩) ?_ ?_
                            rotate_left
                            · intro w'
                              go_simp
                              with_reducible rfl
                            rotate_left
                            · simp only [Act.put, List.setIfInBounds_toArray, List.set_cons_zero, List.set_cons_succ, i64_w, i32_w]
                              rfl
                            refine pure_ (i := 11) (N := some 36) (v := ?_) (a' := ?_) #[true, true, true, true, true, true, true, true, true, true, true, true, false, false, false] rfl rfl (any_of HT_.out (by kernel_rfl)) (fun _ _ _ h => h) (Or.inl ⟨by rfl, ?_⟩) ?_ ?_
                            rotate_left
                            · intro w'
                              go_simp
                              with_reducible rfl
                            rotate_left
                            · simp only [Act.put, List.setIfInBounds_toArray, List.set_cons_zero, List.set_cons_succ, i64_w, i32_w]
                              rfl
                            refine one_ (i := 12) (N := some 9) #[true, true, true, true, true, true, true, true, true, true, true, true, true, false, false] rfl rfl (one_of HT_.out (by kernel_rfl)) (by decide) (fun K hK => ?_)
                            refine box_step ?hg (N := 9) ?hd (cs := #[.int .i64 0, .slice none 0 0]) (t := 74) ?hr ?_; (case hd => rfl); (case hg => rfl); (case hr => first | (go_simp; done) | (go_simp; rfl))
                            intro gb303 hg w14 hbox hb
                            have n0_ := Aside0.mk (Kd.N_below (Kd.N_elderB (by (with_reducible repeat (first | apply Kd.N_alloc | apply Kd.N_drewN | apply Kd.N_drew)); exact HO_6.out) gb303 (Nat.le_of_eq hg.symm)) hb)
                            have n1_ := Aside0.mk (Kd.R_below (by (with_reducible repeat (first | apply Kd.R_alloc | apply Kd.R_drewN | apply Kd.R_drew)); exact HO301.out) hb)
                            have n2_ := Aside0.mk (below_step (by repeat (first | (with_reducible first | exact HB.out | apply below_alloc | apply pw_below_drewN | apply below_drew1) | exact HB.out)) hb)
                            have n3_ := Aside0.mk (hbox)
                            have n4_ := Aside0.mk ((by rw [hg]; exact (below_size (by repeat (first | (with_reducible first | exact HB.out | apply below_alloc | apply pw_below_drewN | apply below_drew1) | exact HB.out))) : w.heap.size ≤ gb303))
                            have n5_ := Aside0.mk ((by rw [hg]; exact (below_size (by repeat (first | (with_reducible first | exact HB.out | apply below_alloc | apply pw_below_drewN | apply below_drew1) | exact HB.out))) : w.heap.size ≤ gb303))
                            clear HO_6
                            clear HO301
                            clear HB
                            have HO_6 := n0_
                            have HO301 := n1_
                            have HB := n2_
                            have BK303 := n3_
                            have GW303 := n4_
                            have GE303 := n5_
                            clear n0_ n1_ n2_ n3_ n4_ n5_
                            clear hb hbox hg
                            refine hK.out _ _ ⟨((HB.out.cell (World.block_lt_of_cell? w _ hw296_0)).trans hw296_0), ((HB.out.cell (World.block_lt_of_cell? w _ hw296_1)).trans hw296_1), ((HB.out.cell (World.block_lt_of_cell? w _ hw297_0)).trans hw297_0), ((HB.out.cell (World.block_lt_of_cell? w _ hw297_1)).trans hw297_1)⟩ (fun hHeld => ?_)
                            clear hK K
                            refine norm_ (a' := ?_) ?_ ?_
                            rotate_left
                            · show Act.put _ (some 9) _ = _
                              simp only [Act.put, List.setIfInBounds_toArray, List.set_cons_zero, List.set_cons_succ, i64_w, i32_w]
                              rfl
                            exact norm_ (by simp only [putAll, Act.put, List.setIfInBounds_toArray, List.set_cons_zero, List.set_cons_succ]) (hCont (v300, gb303) _ ⟨hHeld, (by (with_reducible repeat (first | apply Kd.R_alloc | apply Kd.R_drewN | apply Kd.R_drew)); exact Kd.R_mono HO301.out (fun _ hk => hk.1)), (by (with_reducible repeat (first | apply Kd.N_alloc | apply Kd.N_drewN | apply Kd.N_drew)); exact Kd.N_mono HO_6.out (fun _ hk => ⟨hk.1.1, ⟨hk.1.2, hk.2⟩⟩)), (by (with_reducible repeat (first | refine blk_drewN ?_ _ | refine blk_drew ?_ | refine blk_alloc ?_ _)); exact BK303.out), GW303.out, GE303.out, (by repeat (first | (with_reducible first | exact HB.out | apply below_alloc | apply pw_below_drewN | apply below_drew1 | refine below_set ?_ GE303.out) | exact HB.out))⟩)
                          · skip
                            refine box_step ?hg (N := 9) ?hd (cs := #[.int .i64 0, .slice none 0 0]) (t := 74) ?hr ?_; (case hd => rfl); (case hg => rfl); (case hr => first | (go_simp; done) | (go_simp; rfl))
                            intro gb303 hg w13 hbox hb
                            have n0_ := Aside0.mk (Kd.N_below (Kd.N_elderB (by (with_reducible repeat (first | apply Kd.N_alloc | apply Kd.N_drewN | apply Kd.N_drew)); exact HO_6.out) gb303 (Nat.le_of_eq hg.symm)) hb)
                            have n1_ := Aside0.mk (below_step (by repeat (first | (with_reducible first | exact HB.out | apply below_alloc | apply pw_below_drewN | apply below_drew1) | exact HB.out)) hb)
                            have n2_ := Aside0.mk (hbox)
                            have n3_ := Aside0.mk ((by rw [hg]; exact (below_size (by repeat (first | (with_reducible first | exact HB.out | apply below_alloc | apply pw_below_drewN | apply below_drew1) | exact HB.out))) : w.heap.size ≤ gb303))
                            have n4_ := Aside0.mk ((by rw [hg]; exact (below_size (by repeat (first | (with_reducible first | exact HB.out | apply below_alloc | apply pw_below_drewN | apply below_drew1) | exact HB.out))) : w.heap.size ≤ gb303))
                            clear HO_6
                            clear HB
                            have HO_6 := n0_
                            have HB := n1_
                            have BK303 := n2_
                            have GW303 := n3_
                            have GE303 := n4_
                            clear n0_ n1_ n2_ n3_ n4_
                            clear hb hbox hg
                            refine hK.out _ _ ⟨((HB.out.cell (World.block_lt_of_cell? w _ hw296_0)).trans hw296_0), ((HB.out.cell (World.block_lt_of_cell? w _ hw296_1)).trans hw296_1), ((HB.out.cell (World.block_lt_of_cell? w _ hw297_0)).trans hw297_0), ((HB.out.cell (World.block_lt_of_cell? w _ hw297_1)).trans hw297_1)⟩ (fun hHeld => ?_)
                            clear hK K
                            refine norm_ (a' := ?_) ?_ ?_
                            rotate_left
                            · show Act.put _ (some 9) _ = _
                              simp only [Act.put, List.setIfInBounds_toArray, List.set_cons_zero, List.set_cons_succ, i64_w, i32_w]
                              rfl
                            refine one_ (i := 8) (N := some 34) #[true, true, true, true, true, true, true, true, true, false, false, false, true, false, false] rfl rfl (one_of HT_.out (by kernel_rfl)) (by decide) (fun K hK => ?_)
                            refine goes_ Try.func102 (by kernel_rfl) rfl #[.agg #[.int .i64 ((rd_T74 l0 x7_1).f0), .slice A296_1 ((rd_T74 l0 x7_1).f1).length c296_1], .agg #[.int .i64 ((rd_T74 l1 x8_2).f0), .slice A297_1 ((rd_T74 l1 x8_2).f1).length c297_1]] (by rfl) rfl rfl (by (try simp only [List.map_toArray, List.map_cons, List.map_nil]); first | done | rfl | (simp only [List.length_drop, List.length_take]; rfl)) ?_
                            with_reducible refine (tenetref24_times.calls k2 ((rd_T74 l0 x7_1).f0) _ _ ((rd_T74 l0 x7_1).f1) ((rd_T74 l1 x8_2).f0) _ _ ((rd_T74 l1 x8_2).f1) t298 t299 true _ ?side1 ?side2 ?side3 ?side4 A8.out).mono ?_
                            (case side1 => repeat (first | exact (Kd.C_below HR296_1.out HB.out) | (with_reducible refine Kd.C_alloc ?_ _) | (with_reducible refine Kd.C_drewN ?_ _) | (with_reducible refine Kd.C_drew ?_)))
                            (case side2 => exact HC296_1.out)
                            (case side3 => repeat (first | exact (Kd.C_below HR297_1.out HB.out) | (with_reducible refine Kd.C_alloc ?_ _) | (with_reducible refine Kd.C_drewN ?_ _) | (with_reducible refine Kd.C_drew ?_)))
                            (case side4 => exact HC297_1.out)
                            rintro e w14 ⟨v300, rfl, ho0, hb⟩
                            refine ⟨_, rfl, ?_⟩
                            have n0_ := Aside0.mk (Kd.N_elder' (by (with_reducible repeat (first | apply Kd.N_alloc | apply Kd.N_drewN | apply Kd.N_drew)); exact HO_6.out) (Kd.R_base ho0) hb)
                            have n1_ := Aside0.mk (Kd.R_lower (Kd.R_newM (M := fun k_ => (w.heap.size ≤ k_)) ho0 (below_size (by repeat (first | (with_reducible first | exact HB.out | apply below_alloc | apply pw_below_drewN | apply below_drew1 | refine below_set ?_ GE303.out) | exact HB.out))) (fun k_ h_ => h_)) (below_size (by repeat (first | (with_reducible first | exact HB.out | apply below_alloc | apply pw_below_drewN | apply below_drew1 | refine below_set ?_ GE303.out) | exact HB.out))))
                            have n2_ := Aside0.mk (blk_below (g := gb303) (o := .cells #[.int .i64 0, .slice none 0 0] 74 (0, 0)) (by (with_reducible repeat (first | refine blk_drewN ?_ _ | refine blk_drew ?_ | refine blk_alloc ?_ _)); exact BK303.out) hb)
                            have n3_ := Aside0.mk (below_step (by repeat (first | (with_reducible first | exact HB.out | apply below_alloc | apply pw_below_drewN | apply below_drew1 | refine below_set ?_ GE303.out) | exact HB.out)) hb)
                            clear HO_6
                            clear BK303
                            clear HB
                            have HO_6 := n0_
                            have HO301 := n1_
                            have BK303 := n2_
                            have HB := n3_
                            clear n0_ n1_ n2_ n3_
                            (try clear hb)
                            (try clear hb2)
                            (try clear hk)
                            (try clear hi)
                            (try clear ho0)
                            refine hK.out _ _ ⟨((HB.out.cell (World.block_lt_of_cell? w _ hw296_0)).trans hw296_0), ((HB.out.cell (World.block_lt_of_cell? w _ hw296_1)).trans hw296_1), ((HB.out.cell (World.block_lt_of_cell? w _ hw297_0)).trans hw297_0), ((HB.out.cell (World.block_lt_of_cell? w _ hw297_1)).trans hw297_1)⟩ (fun hHeld => ?_)
                            clear hK K
                            refine norm_ (a' := ?_) ?_ ?_
                            rotate_left
                            · show Act.put _ (some 34) _ = _
                              simp only [Act.put, List.setIfInBounds_toArray, List.set_cons_zero, List.set_cons_succ, i64_w, i32_w]
                              rfl
                            refine pure_ (i := 9) (N := some 25) (v := ?_) (a' := ?_) #[true, true, true, true, true, true, true, true, true, true, false, false, true, false, false] rfl rfl (any_of HT_.out (by kernel_rfl)) (fun _ _ _ h => h) (Or.inl ⟨by rfl, ?_⟩) ?_ ?_
                            rotate_left
                            · intro w'
                              go_simp
                              with_reducible rfl
                            rotate_left
                            · simp only [Act.put, List.setIfInBounds_toArray, List.set_cons_zero, List.set_cons_succ, i64_w, i32_w]
                              rfl
                            refine pure_ (i := 10) (N := some 35) (v := ?_) (a' := ?_) #[true, true, true, true, true, true, true, true, true, true, true, false, true, false, false] rfl rfl (any_of HT_.out (by kernel_rfl)) (fun _ _ _ h => h) (Or.inl ⟨by rfl, ?_⟩) ?_ ?_
                            rotate_left
                            · intro w'
                              go_simp
                              with_reducible rfl
                            rotate_left
                            · simp only [Act.put, List.setIfInBounds_toArray, List.set_cons_zero, List.set_cons_succ, i64_w, i32_w]
                              rfl
                            refine pure_ (i := 11) (N := some 36) (v := ?_) (a' := ?_) #[true, true, true, true, true, true, true, true, true, true, true, true, true, false, false] rfl rfl (any_of HT_.out (by kernel_rfl)) (fun _ _ _ h => h) (Or.inl ⟨by rfl, ?_⟩) ?_ ?_
                            rotate_left
                            · intro w'
                              go_simp
                              with_reducible rfl
                            rotate_left
                            · simp only [Act.put, List.setIfInBounds_toArray, List.set_cons_zero, List.set_cons_succ, i64_w, i32_w]
                              rfl
                            exact norm_ (by simp only [putAll, Act.put, List.setIfInBounds_toArray, List.set_cons_zero, List.set_cons_succ]) (hCont (v300, gb303) _ ⟨hHeld, (by (with_reducible repeat (first | apply Kd.R_alloc | apply Kd.R_drewN | apply Kd.R_drew)); exact Kd.R_mono HO301.out (fun _ hk => hk.1)), (by (with_reducible repeat (first | apply Kd.N_alloc | apply Kd.N_drewN | apply Kd.N_drew)); exact Kd.N_mono HO_6.out (fun _ hk => ⟨hk.1.1, ⟨hk.2, hk.1.2⟩⟩)), (by (with_reducible repeat (first | refine blk_drewN ?_ _ | refine blk_drew ?_ | refine blk_alloc ?_ _)); exact BK303.out), GW303.out, GE303.out, (by repeat (first | (with_reducible first | exact HB.out | apply below_alloc | apply pw_below_drewN | apply below_drew1 | refine below_set ?_ GE303.out) | exact HB.out))⟩)
                        rintro ⟨v300, gb303⟩ w15 ⟨hS_, h0_, h1_, h2_, h3_, h4_, h5_⟩
                        have n0_ : Aside0 (Kd.R (Kd.int .i64) 3 w15 w.heap.size (fun k_ => (w.heap.size ≤ k_)) v300 t299) := ⟨h0_⟩
                        have n1_ : Aside0 (Kd.N k74 74 w15 w.heap.size (fun k_ => (w.heap.size ≤ k_) ∧ some k_ ≠ (v300 : Value).ownBlock ∧ k_ ≠ gb303) u6 x6_2) := ⟨h1_⟩
                        have n2_ : Aside0 (w15.heap[gb303]? = some (.cells #[.int .i64 0, .slice none 0 0] 74 (0, 0))) := ⟨h2_⟩
                        have n3_ : Aside0 (w.heap.size ≤ gb303) := ⟨h3_⟩
                        have n4_ : Aside0 (w.heap.size ≤ gb303) := ⟨h4_⟩
                        have n5_ : Aside0 (Below w.heap.size w w15) := ⟨h5_⟩
                        clear HO_6
                        clear HB
                        clear h0_ h1_ h2_ h3_ h4_ h5_
                        have HO301 := n0_
                        have HO_6 := n1_
                        have BK303 := n2_
                        have GW303 := n3_
                        have GE303 := n4_
                        have HB := n5_
                        clear n0_ n1_ n2_ n3_ n4_ n5_
                        have hHeld : w15.cell? (ad296.add ((x7_1).toNat * 2)) = some (.int .i64 ((rd_T74 l0 x7_1).f0)) ∧ w15.cell? ⟨(ad296.add ((x7_1).toNat * 2)).block, (ad296.add ((x7_1).toNat * 2)).off + 1, none⟩ = some (.slice A296_1 ((rd_T74 l0 x7_1).f1).length c296_1) ∧ w15.cell? (ad297.add ((x8_2).toNat * 2)) = some (.int .i64 ((rd_T74 l1 x8_2).f0)) ∧ w15.cell? ⟨(ad297.add ((x8_2).toNat * 2)).block, (ad297.add ((x8_2).toNat * 2)).off + 1, none⟩ = some (.slice A297_1 ((rd_T74 l1 x8_2).f1).length c297_1) := hS_
                        obtain ⟨Ao17, co17, eo17⟩ := Kd.R_slice HO301.out
                        (first | subst eo17 | (injection eo17 with f1_ f2_ f3_; have f4_ := f1_.symm; have f5_ := f3_.symm; clear f1_ f2_ f3_; subst f4_; subst f5_))
                        refine norm_ (a' := ?_) ?_ ?_
                        rotate_left
                        · simp only [putAll, Act.put, List.setIfInBounds_toArray, List.set_cons_zero, List.set_cons_succ]
                          rfl
                        refine one_ (i := 13) (N := none) #[true, true, true, true, true, true, true, true, true, true, true, true, true, true, false] rfl rfl (one_of HT_.out (by kernel_rfl)) (by decide) (fun K hK => ?_)
                        have hs16 : w15.cell? ⟨gb303, 0, none⟩ = some (.int .i64 0) := (blk_cell BK303.out 0).trans rfl
                        have hfs16 := blk_frozen BK303.out 0
                        have hs18 : w15.cell? ⟨gb303, 1, none⟩ = some (.slice none 0 0) := (blk_cell BK303.out 1).trans rfl
                        have hfs18 := blk_frozen BK303.out 1
                        refine skip_ (w1 := ?_) (by rfl) rfl ?_ ?_
                        rotate_left
                        · go_simp
                          rfl
                        refine hK.out _ _ ⟨((cell_far (p := ⟨gb303, _, none⟩) (by first | exact Nat.ne_of_lt (Nat.lt_of_lt_of_le (by have := World.block_lt_of_cell? _ _ hw296_0; first | rwa [add_block] at this | exact this) GW303.out) | (rw [add_block]; exact Nat.ne_of_lt (Nat.lt_of_lt_of_le (by have := World.block_lt_of_cell? _ _ hw296_0; first | rwa [add_block] at this | exact this) GW303.out)) | (show (Addr.add _ _).block ≠ _; rw [add_block]; exact Nat.ne_of_lt (Nat.lt_of_lt_of_le (by have := World.block_lt_of_cell? _ _ hw296_0; first | rwa [add_block] at this | exact this) GW303.out)) | (dsimp only; exact Nat.ne_of_lt (Nat.lt_of_lt_of_le (by have := World.block_lt_of_cell? _ _ hw296_0; first | rwa [add_block] at this | exact this) GW303.out))) _).trans (((cell_far (p := ⟨gb303, _, none⟩) (by first | exact Nat.ne_of_lt (Nat.lt_of_lt_of_le (by have := World.block_lt_of_cell? _ _ hw296_0; first | rwa [add_block] at this | exact this) GW303.out) | (rw [add_block]; exact Nat.ne_of_lt (Nat.lt_of_lt_of_le (by have := World.block_lt_of_cell? _ _ hw296_0; first | rwa [add_block] at this | exact this) GW303.out)) | (show (Addr.add _ _).block ≠ _; rw [add_block]; exact Nat.ne_of_lt (Nat.lt_of_lt_of_le (by have := World.block_lt_of_cell? _ _ hw296_0; first | rwa [add_block] at this | exact this) GW303.out)) | (dsimp only; exact Nat.ne_of_lt (Nat.lt_of_lt_of_le (by have := World.block_lt_of_cell? _ _ hw296_0; first | rwa [add_block] at this | exact this) GW303.out))) _).trans (hHeld.1)))), ((cell_far (p := ⟨gb303, _, none⟩) (by first | exact Nat.ne_of_lt (Nat.lt_of_lt_of_le (by have := World.block_lt_of_cell? _ _ hw296_1; first | rwa [add_block] at this | exact this) GW303.out) | (rw [add_block]; exact Nat.ne_of_lt (Nat.lt_of_lt_of_le (by have := World.block_lt_of_cell? _ _ hw296_1; first | rwa [add_block] at this | exact this) GW303.out)) | (show (Addr.add _ _).block ≠ _; rw [add_block]; exact Nat.ne_of_lt (Nat.lt_of_lt_of_le (by have := World.block_lt_of_cell? _ _ hw296_1; first | rwa [add_block] at this | exact this) GW303.out)) | (dsimp only; exact Nat.ne_of_lt (Nat.lt_of_lt_of_le (by have := World.block_lt_of_cell? _ _ hw296_1; first | rwa [add_block] at this | exact this) GW303.out))) _).trans (((cell_far (p := ⟨gb303, _, none⟩) (by first | exact Nat.ne_of_lt (Nat.lt_of_lt_of_le (by have := World.block_lt_of_cell? _ _ hw296_1; first | rwa [add_block] at this | exact this) GW303.out) | (rw [add_block]; exact Nat.ne_of_lt (Nat.lt_of_lt_of_le (by have := World.block_lt_of_cell? _ _ hw296_1; first | rwa [add_block] at this | exact this) GW303.out)) | (show (Addr.add _ _).block ≠ _; rw [add_block]; exact Nat.ne_of_lt (Nat.lt_of_lt_of_le (by have := World.block_lt_of_cell? _ _ hw296_1; first | rwa [add_block] at this | exact this) GW303.out)) | (dsimp only; exact Nat.ne_of_lt (Nat.lt_of_lt_of_le (by have := World.block_lt_of_cell? _ _ hw296_1; first | rwa [add_block] at this | exact this) GW303.out))) _).trans (hHeld.2.1)))), ((cell_far (p := ⟨gb303, _, none⟩) (by first | exact Nat.ne_of_lt (Nat.lt_of_lt_of_le (by have := World.block_lt_of_cell? _ _ hw297_0; first | rwa [add_block] at this | exact this) GW303.out) | (rw [add_block]; exact Nat.ne_of_lt (Nat.lt_of_lt_of_le (by have := World.block_lt_of_cell? _ _ hw297_0; first | rwa [add_block] at this | exact this) GW303.out)) | (show (Addr.add _ _).block ≠ _; rw [add_block]; exact Nat.ne_of_lt (Nat.lt_of_lt_of_le (by have := World.block_lt_of_cell? _ _ hw297_0; first | rwa [add_block] at this | exact this) GW303.out)) | (dsimp only; exact Nat.ne_of_lt (Nat.lt_of_lt_of_le (by have := World.block_lt_of_cell? _ _ hw297_0; first | rwa [add_block] at this | exact this) GW303.out))) _).trans (((cell_far (p := ⟨gb303, _, none⟩) (by first | exact Nat.ne_of_lt (Nat.lt_of_lt_of_le (by have := World.block_lt_of_cell? _ _ hw297_0; first | rwa [add_block] at this | exact this) GW303.out) | (rw [add_block]; exact Nat.ne_of_lt (Nat.lt_of_lt_of_le (by have := World.block_lt_of_cell? _ _ hw297_0; first | rwa [add_block] at this | exact this) GW303.out)) | (show (Addr.add _ _).block ≠ _; rw [add_block]; exact Nat.ne_of_lt (Nat.lt_of_lt_of_le (by have := World.block_lt_of_cell? _ _ hw297_0; first | rwa [add_block] at this | exact this) GW303.out)) | (dsimp only; exact Nat.ne_of_lt (Nat.lt_of_lt_of_le (by have := World.block_lt_of_cell? _ _ hw297_0; first | rwa [add_block] at this | exact this) GW303.out))) _).trans (hHeld.2.2.1)))), ((cell_far (p := ⟨gb303, _, none⟩) (by first | exact Nat.ne_of_lt (Nat.lt_of_lt_of_le (by have := World.block_lt_of_cell? _ _ hw297_1; first | rwa [add_block] at this | exact this) GW303.out) | (rw [add_block]; exact Nat.ne_of_lt (Nat.lt_of_lt_of_le (by have := World.block_lt_of_cell? _ _ hw297_1; first | rwa [add_block] at this | exact this) GW303.out)) | (show (Addr.add _ _).block ≠ _; rw [add_block]; exact Nat.ne_of_lt (Nat.lt_of_lt_of_le (by have := World.block_lt_of_cell? _ _ hw297_1; first | rwa [add_block] at this | exact this) GW303.out)) | (dsimp only; exact Nat.ne_of_lt (Nat.lt_of_lt_of_le (by have := World.block_lt_of_cell? _ _ hw297_1; first | rwa [add_block] at this | exact this) GW303.out))) _).trans (((cell_far (p := ⟨gb303, _, none⟩) (by first | exact Nat.ne_of_lt (Nat.lt_of_lt_of_le (by have := World.block_lt_of_cell? _ _ hw297_1; first | rwa [add_block] at this | exact this) GW303.out) | (rw [add_block]; exact Nat.ne_of_lt (Nat.lt_of_lt_of_le (by have := World.block_lt_of_cell? _ _ hw297_1; first | rwa [add_block] at this | exact this) GW303.out)) | (show (Addr.add _ _).block ≠ _; rw [add_block]; exact Nat.ne_of_lt (Nat.lt_of_lt_of_le (by have := World.block_lt_of_cell? _ _ hw297_1; first | rwa [add_block] at this | exact this) GW303.out)) | (dsimp only; exact Nat.ne_of_lt (Nat.lt_of_lt_of_le (by have := World.block_lt_of_cell? _ _ hw297_1; first | rwa [add_block] at this | exact this) GW303.out))) _).trans (hHeld.2.2.2))))⟩ (fun hHeld => ?_)
                        clear hK K
                        refine pure_ (i := 14) (N := some 10) (v := ?_) (a' := ?_) #[true, true, true, true, true, true, true, true, true, true, true, true, true, true, true] rfl rfl (any_of HT_.out (by kernel_rfl)) (fun _ _ _ h => h) (Or.inl ⟨by rfl, ?_⟩) ?_ ?_
                        rotate_left
                        · intro w'
                          go_simp
                          with_reducible rfl
                        rotate_left
                        · simp only [Act.put, List.setIfInBounds_toArray, List.set_cons_zero, List.set_cons_succ, i64_w, i32_w]
                          rfl
                        refine done_ (done_of HT_.out (by kernel_rfl)) ?_
                        have n0_ : Aside0 (Kd.N k74 74 ((w15.setCell ⟨gb303, 0, none⟩ (.int .i64 t298)).setCell ⟨gb303, 1, none⟩ (.slice Ao17 t299.length co17)) w.heap.size (fun k_ => (w.heap.size ≤ k_) ∧ some k_ ≠ (.slice Ao17 t299.length co17 : Value).ownBlock ∧ k_ ≠ gb303) u6 x6_2) := ⟨by (with_reducible repeat (first | apply Kd.N_alloc | apply Kd.N_drewN | apply Kd.N_drew)); exact Kd.N_mono (Kd.N_far (p := ⟨gb303, 1, none⟩) (Kd.N_far (p := ⟨gb303, 0, none⟩) (Kd.N_mono HO_6.out (fun k_ hk => (⟨hk, hk.2.2⟩ : _ ∧ k_ ≠ gb303))) (fun _ hk => hk.2) (.int .i64 t298)) (fun _ hk => hk.2) (.slice Ao17 t299.length co17)) (fun _ hk => ⟨hk.1.1, ⟨hk.1.2.1, hk.1.2.2⟩⟩)⟩
                        have n1_ : Aside0 (Kd.R (Kd.int .i64) 3 ((w15.setCell ⟨gb303, 0, none⟩ (.int .i64 t298)).setCell ⟨gb303, 1, none⟩ (.slice Ao17 t299.length co17)) w.heap.size (fun k_ => (w.heap.size ≤ k_)) (.slice Ao17 t299.length co17) t299) := ⟨by (with_reducible repeat (first | apply Kd.R_alloc | apply Kd.R_drewN | apply Kd.R_drew)); exact Kd.R_mono (Kd.R_far (p := ⟨gb303, 1, none⟩) (Kd.R_far (p := ⟨gb303, 0, none⟩) (Kd.R_types HO301.out BK303.out (by decide)) (fun _ hk => hk.2) (.int .i64 t298)) (fun _ hk => hk.2) (.slice Ao17 t299.length co17)) (fun _ hk => hk.1)⟩
                        have n2_ : Aside0 (((w15.setCell ⟨gb303, 0, none⟩ (.int .i64 t298)).setCell ⟨gb303, 1, none⟩ (.slice Ao17 t299.length co17)).heap[gb303]? = some (.cells #[.int .i64 t298, .slice Ao17 t299.length co17] 74 (0, 0))) := ⟨by (with_reducible repeat (first | refine blk_drewN ?_ _ | refine blk_drew ?_ | refine blk_alloc ?_ _)); refine blk_put (cs := #[.int .i64 t298, .slice none 0 0]) ?_ 1 _ rfl; (with_reducible repeat (first | refine blk_drewN ?_ _ | refine blk_drew ?_ | refine blk_alloc ?_ _)); refine blk_put (cs := #[.int .i64 0, .slice none 0 0]) ?_ 0 _ rfl; (with_reducible repeat (first | refine blk_drewN ?_ _ | refine blk_drew ?_ | refine blk_alloc ?_ _)); exact BK303.out⟩
                        have n3_ : Aside0 (Below w.heap.size w ((w15.setCell ⟨gb303, 0, none⟩ (.int .i64 t298)).setCell ⟨gb303, 1, none⟩ (.slice Ao17 t299.length co17))) := ⟨by repeat (first | (with_reducible first | exact HB.out | apply below_alloc | apply pw_below_drewN | apply below_drew1 | refine below_set ?_ GE303.out) | exact HB.out)⟩
                        (try clear HO_6)
                        (try clear HO301)
                        (try clear BK303)
                        (try clear HB)
                        generalize ((w15.setCell ⟨gb303, 0, none⟩ (.int .i64 t298)).setCell ⟨gb303, 1, none⟩ (.slice Ao17 t299.length co17)) = w19 at n0_ n1_ n2_ n3_ ⊢
                        have HO_6 := n0_
                        have HO301 := n1_
                        have BK303 := n2_
                        have HB := n3_
                        clear n0_ n1_ n2_ n3_
                        have hcz20_0 : w19.cell? ⟨gb303, 0, none⟩ = some (.int .i64 t298) := (blk_cell BK303.out 0).trans rfl
                        have hcz20_1 : w19.cell? ⟨gb303, 1, none⟩ = some (.slice Ao17 t299.length co17) := (blk_cell BK303.out 1).trans rfl
                        have hfz20_0 := blk_frozen BK303.out 0
                        have hfz20_1 := blk_frozen BK303.out 1
                        obtain ⟨Ao21, co21, eo21⟩ := Kd.N_slice HO_6.out
                        subst eo21
                        try go_wp2_with (first | ((with_reducible refine gate_callee (f := 100) rfl ?_); refine goesL_ (some 42) rfl rfl Try.func100 (by kernel_rfl) rfl #[.slice Ao21 x6_2.length co21, .agg #[.int .i64 t298, .slice Ao17 t299.length co17]] rfl (by (try simp only [List.map_toArray, List.map_cons, List.map_nil]); first | done | rfl | (simp only [List.length_drop, List.length_take]; rfl)) ?_; (with_reducible refine (tenetref24_into.calls k2 (fun k_ => ((w.heap.size ≤ k_) ∧ (some k_ ≠ (.slice Ao17 t299.length co17 : Value).ownBlock ∧ k_ ≠ gb303))) _ _ x6_2 t298 (fun k_ => some k_ = (.slice Ao17 t299.length co17 : Value).ownBlock) _ _ t299 t304 true _ ?side1 ?side2 A10.out).mono ?_); (case side1 => exact Kd.N_V (HO_6.out)); (case side2 => exact Kd.R_V (Kd.R_tight rfl (Kd.R_types (Kd.R_apart' (HO301.out) (Kd.N_typed HO_6.out) (by decide)) BK303.out (by decide)))); rintro e w22 ⟨v305, rfl, ho0, hb⟩; refine ⟨_, rfl, ?_⟩; have n0_ := Aside0.mk (Kd.N_elder' (by (with_reducible repeat (first | apply Kd.N_alloc | apply Kd.N_drewN | apply Kd.N_drew)); exact HO_6.out) (Kd.N_base ho0) hb); have n1_ := Aside0.mk (Kd.R_below (by (with_reducible repeat (first | apply Kd.R_alloc | apply Kd.R_drewN | apply Kd.R_drew)); exact HO301.out) hb); have n2_ := Aside0.mk (Kd.N_lower (Kd.N_mono (ok' := fun k_ => (w.heap.size ≤ k_) ∧ k_ ≠ gb303) ho0 (fun k_ hk_ => ⟨Or.elim hk_ (fun hs_ => Or.elim hs_ (fun hs_ => hs_.1) (fun hs_ => ((Kd.R_types (Kd.R_apart' (HO301.out) (Kd.N_typed HO_6.out) (by decide)) BK303.out (by decide)).1 k_ hs_.symm).1.1)) (fun hn_ => (Nat.le_trans (below_size (by repeat (first | (with_reducible first | exact HB.out | apply below_alloc | apply pw_below_drewN | apply below_drew1 | refine below_set ?_ GE303.out) | exact HB.out))) hn_)), Or.elim hk_ (fun hs_ => Or.elim hs_ (fun hs_ => hs_.2.2) (fun hs_ => ((Kd.R_types (Kd.R_apart' (HO301.out) (Kd.N_typed HO_6.out) (by decide)) BK303.out (by decide)).1 k_ hs_.symm).2)) (fun hn_ => (Kd.freshB (g := gb303) (o := .cells #[.int .i64 t298, .slice Ao17 t299.length co17] 74 (0, 0)) (by (with_reducible repeat (first | refine blk_drewN ?_ _ | refine blk_drew ?_ | refine blk_alloc ?_ _)); exact BK303.out) k_ hn_))⟩)) (below_size (by repeat (first | (with_reducible first | exact HB.out | apply below_alloc | apply pw_below_drewN | apply below_drew1 | refine below_set ?_ GE303.out) | exact HB.out)))); have n3_ := Aside0.mk (blk_below (g := gb303) (o := .cells #[.int .i64 t298, .slice Ao17 t299.length co17] 74 (0, 0)) (by (with_reducible repeat (first | refine blk_drewN ?_ _ | refine blk_drew ?_ | refine blk_alloc ?_ _)); exact BK303.out) hb); have n4_ := Aside0.mk (below_step (by repeat (first | (with_reducible first | exact HB.out | apply below_alloc | apply pw_below_drewN | apply below_drew1 | refine below_set ?_ GE303.out) | exact HB.out)) hb); clear HO_6; clear HO301; clear BK303; clear HB; have HO_6 := n0_; have HO301 := n1_; have HO306 := n2_; have BK303 := n3_; have HB := n4_; clear n0_ n1_ n2_ n3_ n4_; (try clear hb); (try clear hb2); (try clear hk); (try clear hi); (try clear ho0)))
                        go_roundg k2
                        case measure => have := HK1.out; have := HK2.out; omega
                        case rel => exact ⟨(t304), (wrap64 (x8_2 + 1)), (by first | rfl | (simp; done) | (simp [*]; done)), H', ⟨by have := HK1.out; have := HK2.out; omega⟩, ⟨by (with_reducible repeat (first | apply Kd.N_alloc | apply Kd.N_drewN | apply Kd.N_drew)); exact Kd.N_mono HO306.out (fun _ hk => hk.1)⟩, ⟨by repeat (first | (with_reducible first | exact HB.out | apply below_alloc | apply pw_below_drewN | apply below_drew1 | refine below_set ?_ GE303.out) | exact HB.out)⟩⟩
                      · replace c11 := Bool.eq_false_iff.mpr c11
                        subst c11
                        have H1 : (some (([] : List (S74)), false)) = some (r1, r2) := by rw [if_neg (show ¬ (false = true) by decide)] at H; exact H
                        clear H
                        have H := H1
                        clear H1
                        simp only [Option.some.injEq, Prod.mk.injEq] at H
                        obtain ⟨rfl, rfl⟩ := H
                        try go_wp2
                        have n0_ := Aside0.mk (Kd.N_drew HO_6.out)
                        have n1_ := Aside0.mk (below_drew1 HB.out)
                        clear HO_6
                        clear HB
                        have HO_6 := n0_
                        have HB := n1_
                        clear n0_ n1_
                        have p296 : 0 ≤ (x7_1 : Int) := of_decide_eq_true (by first | (with_reducible assumption) | assumption)
                        have q296 : x7_1 < (l0.length : Int) := of_decide_eq_true (by first | (with_reducible assumption) | assumption)
                        obtain ⟨ad296, A296_1, c296_1, e296, hx296_0, hx296_1, hl296_1, hi296_1⟩ := at_T74 HR0.out x7_1 p296 q296
                        have hw296_1 := hx296_1
                        have hw296_0 := hx296_0
                        cases e296
                        replace hx296_0 := (HB.out.cell (World.block_lt_of_cell? w _ hx296_0)).trans hx296_0
                        replace hx296_1 := (HB.out.cell (World.block_lt_of_cell? w _ hx296_1)).trans hx296_1
                        have HR296_1 := Aside0.mk hi296_1
                        have HC296_1 := Aside0.mk hl296_1
                        clear hi296_1 hl296_1
                        replace p296 := eq_true p296
                        replace q296 := eq_true q296
                        have p297 : 0 ≤ (x8_2 : Int) := of_decide_eq_true (by first | (with_reducible assumption) | assumption)
                        have q297 : x8_2 < (l1.length : Int) := of_decide_eq_true (by first | (with_reducible assumption) | assumption)
                        obtain ⟨ad297, A297_1, c297_1, e297, hx297_0, hx297_1, hl297_1, hi297_1⟩ := at_T74 HR1.out x8_2 p297 q297
                        have hw297_1 := hx297_1
                        have hw297_0 := hx297_0
                        cases e297
                        replace hx297_0 := (HB.out.cell (World.block_lt_of_cell? w _ hx297_0)).trans hx297_0
                        replace hx297_1 := (HB.out.cell (World.block_lt_of_cell? w _ hx297_1)).trans hx297_1
                        have HR297_1 := Aside0.mk hi297_1
                        have HC297_1 := Aside0.mk hl297_1
                        clear hi297_1 hl297_1
                        replace p297 := eq_true p297
                        replace q297 := eq_true q297
                        refine start_ (n := 15) (S := fun w' => w'.cell? (ad296.add ((x7_1).toNat * 2)) = some (.int .i64 ((rd_T74 l0 x7_1).f0)) ∧ w'.cell? ⟨(ad296.add ((x7_1).toNat * 2)).block, (ad296.add ((x7_1).toNat * 2)).off + 1, none⟩ = some (.slice A296_1 ((rd_T74 l0 x7_1).f1).length c296_1) ∧ w'.cell? (ad297.add ((x8_2).toNat * 2)) = some (.int .i64 ((rd_T74 l1 x8_2).f0)) ∧ w'.cell? ⟨(ad297.add ((x8_2).toNat * 2)).block, (ad297.add ((x8_2).toNat * 2)).off + 1, none⟩ = some (.slice A297_1 ((rd_T74 l1 x8_2).f1).length c297_1)) (ds := []) #[false, false, false, false, false, false, false, false, false, false, false, false, false, false, false] (by kernel_rfl) rfl rfl ⟨((HB.out.cell (World.block_lt_of_cell? w _ hw296_0)).trans hw296_0), ((HB.out.cell (World.block_lt_of_cell? w _ hw296_1)).trans hw296_1), ((HB.out.cell (World.block_lt_of_cell? w _ hw297_0)).trans hw297_0), ((HB.out.cell (World.block_lt_of_cell? w _ hw297_1)).trans hw297_1)⟩ (fun hHeld => ?_); refine with_tabW tenetref24_mul.tab8 tenetref24_mul.bits8 (fun HT_ HW_ => ?_)
                        generalize wr.drew = w23 at HO_6 HB HR296_1 HR297_1 hx296_0 hx296_1 hx297_0 hx297_1 hHeld ⊢
                        refine pure_ (i := 0) (N := some 26) (v := ?_) (a' := ?_) #[true, false, false, false, false, false, false, false, false, false, false, false, false, false, false] rfl rfl (any_of HT_.out (by kernel_rfl)) (fun _ _ _ h => h) (Or.inl ⟨by rfl, ?_⟩) ?_ ?_
                        rotate_left
                        · intro w'
                          go_simp
                          with_reducible rfl
                        rotate_left
                        · simp only [Act.put, List.setIfInBounds_toArray, List.set_cons_zero, List.set_cons_succ, i64_w, i32_w]
                          rfl
                        refine pure_ (i := 1) (N := some 27) (v := ?_) (a' := ?_) #[true, true, false, false, false, false, false, false, false, false, false, false, false, false, false] rfl rfl (any_of HT_.out (by kernel_rfl)) (fun _ _ _ h => h) (Or.inl ⟨by rfl, ?_⟩) ?_ ?_
                        rotate_left
                        · intro w'
                          go_simp
                          with_reducible rfl
                        rotate_left
                        · simp only [Act.put, List.setIfInBounds_toArray, List.set_cons_zero, List.set_cons_succ, i64_w, i32_w]
                          rfl
                        refine pure_ (i := 2) (N := some 28) (v := ?_) (a' := ?_) #[true, true, true, false, false, false, false, false, false, false, false, false, false, false, false] rfl rfl (any_of HT_.out (by kernel_rfl)) (fun _ _ _ h => h) (Or.inl ⟨by rfl, ?_⟩) ?_ ?_
                        rotate_left
                        · intro w'
                          go_simp
                          with_reducible rfl
                        rotate_left
                        · simp only [Act.put, List.setIfInBounds_toArray, List.set_cons_zero, List.set_cons_succ, i64_w, i32_w]
                          rfl
                        refine pure_ (i := 4) (N := some 30) (v := ?_) (a' := ?_) #[true, true, true, false, true, false, false, false, false, false, false, false, false, false, false] rfl rfl (any_of HT_.out (by kernel_rfl)) (fun _ _ _ h => h) (Or.inl ⟨by rfl, ?_⟩) ?_ ?_
                        rotate_left
                        · intro w'
                          go_simp
                          with_reducible rfl
                        rotate_left
                        · simp only [Act.put, List.setIfInBounds_toArray, List.set_cons_zero, List.set_cons_succ, i64_w, i32_w]
                          rfl
                        refine pure_ (i := 5) (N := some 31) (v := ?_) (a' := ?_) #[true, true, true, false, true, true, false, false, false, false, false, false, false, false, false] rfl rfl (any_of HT_.out (by kernel_rfl)) (fun _ _ _ h => h) (Or.inl ⟨by rfl, ?_⟩) ?_ ?_
                        rotate_left
                        · intro w'
                          go_simp
                          with_reducible rfl
                        rotate_left
                        · simp only [Act.put, List.setIfInBounds_toArray, List.set_cons_zero, List.set_cons_succ, i64_w, i32_w]
                          rfl
                        refine pure_ (i := 6) (N := some 32) (v := ?_) (a' := ?_) #[true, true, true, false, true, true, true, false, false, false, false, false, false, false, false] rfl rfl (any_of HT_.out (by kernel_rfl)) (fun _ _ _ h => h) (Or.inl ⟨by rfl, ?_⟩) ?_ ?_
                        rotate_left
                        · intro w'
                          go_simp
                          with_reducible rfl
                        rotate_left
                        · simp only [Act.put, List.setIfInBounds_toArray, List.set_cons_zero, List.set_cons_succ, i64_w, i32_w]
                          rfl
                        refine take_ (i := 3) (N := some 29) (v := ?_) (a' := ?_) #[true, true, true, true, true, true, true, false, false, false, false, false, false, false, false] rfl rfl (take_ofW HT_.out HW_.out (by kernel_rfl)) (fun _ _ _ h => h) (Or.inl ⟨by rfl, ?_⟩) hHeld ?_ ?_
                        rotate_left
                        · rintro w' ⟨s0, s1, s2, s3⟩
                          go_simp
                          with_reducible rfl
                        rotate_left
                        · simp only [Act.put, List.setIfInBounds_toArray, List.set_cons_zero, List.set_cons_succ, i64_w, i32_w]
                          rfl
                        refine take_ (i := 7) (N := some 33) (v := ?_) (a' := ?_) #[true, true, true, true, true, true, true, true, false, false, false, false, false, false, false] rfl rfl (take_ofW HT_.out HW_.out (by kernel_rfl)) (fun _ _ _ h => h) (Or.inl ⟨by rfl, ?_⟩) hHeld ?_ ?_
                        rotate_left
                        · rintro w' ⟨s0, s1, s2, s3⟩
                          go_simp
                          with_reducible rfl
                        rotate_left
                        · simp only [Act.put, List.setIfInBounds_toArray, List.set_cons_zero, List.set_cons_succ, i64_w, i32_w]
                          rfl
                        refine join_ (σ := Value × Nat) 2 #[true, true, true, true, true, true, true, true, true, true, true, true, true, false, false] (fun s_ => [(34, .tuple #[.agg #[.int .i64 t298, s_.1], .bool true]), (9, .pointer (some ⟨s_.2, 0, none⟩)), (25, .tuple #[.agg #[.int .i64 t298, s_.1], .bool true]), (35, .agg #[.int .i64 t298, s_.1]), (36, .bool true)]) (fun s_ w' => (w'.cell? (ad296.add ((x7_1).toNat * 2)) = some (.int .i64 ((rd_T74 l0 x7_1).f0)) ∧ w'.cell? ⟨(ad296.add ((x7_1).toNat * 2)).block, (ad296.add ((x7_1).toNat * 2)).off + 1, none⟩ = some (.slice A296_1 ((rd_T74 l0 x7_1).f1).length c296_1) ∧ w'.cell? (ad297.add ((x8_2).toNat * 2)) = some (.int .i64 ((rd_T74 l1 x8_2).f0)) ∧ w'.cell? ⟨(ad297.add ((x8_2).toNat * 2)).block, (ad297.add ((x8_2).toNat * 2)).off + 1, none⟩ = some (.slice A297_1 ((rd_T74 l1 x8_2).f1).length c297_1)) ∧ (Kd.R (Kd.int .i64) 3 w' w.heap.size (fun k_ => (w.heap.size ≤ k_)) s_.1 t299) ∧ (Kd.N k74 74 w' w.heap.size (fun k_ => (w.heap.size ≤ k_) ∧ some k_ ≠ (s_.1 : Value).ownBlock ∧ k_ ≠ s_.2) u6 x6_2) ∧ (w'.heap[s_.2]? = some (.cells #[.int .i64 0, .slice none 0 0] 74 (0, 0))) ∧ (w.heap.size ≤ s_.2) ∧ (w.heap.size ≤ s_.2) ∧ (Below w.heap.size w w')) ?_ ?_
                        rotate_left
                        · intro hCont
                          refine two_ (i := 8) (j := 12) (Ni := some 34) (Nj := some 9) #[true, true, true, true, true, true, true, true, true, false, false, false, false, false, false] #[true, true, true, true, true, true, true, true, false, false, false, false, true, false, false] rfl rfl rfl rfl (two_of HT_.out (by kernel_rfl)) (by decide) (by decide) (fun K hK => ?_) (fun K hK => ?_)
                          · skip
                            refine goes_ Try.func102 (by kernel_rfl) rfl #[.agg #[.int .i64 ((rd_T74 l0 x7_1).f0), .slice A296_1 ((rd_T74 l0 x7_1).f1).length c296_1], .agg #[.int .i64 ((rd_T74 l1 x8_2).f0), .slice A297_1 ((rd_T74 l1 x8_2).f1).length c297_1]] (by rfl) rfl rfl (by (try simp only [List.map_toArray, List.map_cons, List.map_nil]); first | done | rfl | (simp only [List.length_drop, List.length_take]; rfl)) ?_
                            with_reducible refine (tenetref24_times.calls k2 ((rd_T74 l0 x7_1).f0) _ _ ((rd_T74 l0 x7_1).f1) ((rd_T74 l1 x8_2).f0) _ _ ((rd_T74 l1 x8_2).f1) t298 t299 true _ ?side1 ?side2 ?side3 ?side4 A8.out).mono ?_
                            (case side1 => repeat (first | exact (Kd.C_below HR296_1.out HB.out) | (with_reducible refine Kd.C_alloc ?_ _) | (with_reducible refine Kd.C_drewN ?_ _) | (with_reducible refine Kd.C_drew ?_)))
                            (case side2 => exact HC296_1.out)
                            (case side3 => repeat (first | exact (Kd.C_below HR297_1.out HB.out) | (with_reducible refine Kd.C_alloc ?_ _) | (with_reducible refine Kd.C_drewN ?_ _) | (with_reducible refine Kd.C_drew ?_)))
                            (case side4 => exact HC297_1.out)
                            rintro e w24 ⟨v300, rfl, ho0, hb⟩
                            refine ⟨_, rfl, ?_⟩
                            have n0_ := Aside0.mk (Kd.N_elder' (by (with_reducible repeat (first | apply Kd.N_alloc | apply Kd.N_drewN | apply Kd.N_drew)); exact HO_6.out) (Kd.R_base ho0) hb)
                            have n1_ := Aside0.mk (Kd.R_lower (Kd.R_newM (M := fun k_ => (w.heap.size ≤ k_)) ho0 (below_size (by repeat (first | (with_reducible first | exact HB.out | apply below_alloc | apply pw_below_drewN | apply below_drew1) | exact HB.out))) (fun k_ h_ => h_)) (below_size (by repeat (first | (with_reducible first | exact HB.out | apply below_alloc | apply pw_below_drewN | apply below_drew1) | exact HB.out))))
                            have n2_ := Aside0.mk (below_step (by repeat (first | (with_reducible first | exact HB.out | apply below_alloc | apply pw_below_drewN | apply below_drew1) | exact HB.out)) hb)
                            clear HO_6
                            clear HB
                            have HO_6 := n0_
                            have HO301 := n1_
                            have HB := n2_
                            clear n0_ n1_ n2_
                            (try clear hb)
                            (try clear hb2)
                            (try clear hk)
                            (try clear hi)
                            (try clear ho0)
                            refine hK.out _ _ ⟨((HB.out.cell (World.block_lt_of_cell? w _ hw296_0)).trans hw296_0), ((HB.out.cell (World.block_lt_of_cell? w _ hw296_1)).trans hw296_1), ((HB.out.cell (World.block_lt_of_cell? w _ hw297_0)).trans hw297_0), ((HB.out.cell (World.block_lt_of_cell? w _ hw297_1)).trans hw297_1)⟩ (fun hHeld => ?_)
                            clear hK K
                            refine norm_ (a' := ?_) ?_ ?_
                            rotate_left
                            · show Act.put _ (some 34) _ = _
                              simp only [Act.put, List.setIfInBounds_toArray, List.set_cons_zero, List.set_cons_succ, i64_w, i32_w]
                              rfl
                            refine pure_ (i := 9) (N := some 25) (v := ?_) (a' := ?_) #[true, true, true, true, true, true, true, true, true, true, false, false, false, false, false] rfl rfl (any_of HT_.out (by kernel_rfl)) (fun _ _ _ h => h) (Or.inl ⟨by rfl, ?_⟩) ?_ ?_
                            rotate_left
                            · intro w'
                              go_simp
                              with_reducible rfl
                            rotate_left
                            · simp only [Act.put, List.setIfInBounds_toArray, List.set_cons_zero, List.set_cons_succ, i64_w, i32_w]
                              rfl
                            refine pure_ (i := 10) (N := some 35) (v := ?_) (a' := ?_) #[true, true, true, true, true, true, true, true, true, true, true, false, false, false, false] rfl rfl (any_of HT_.out (by kernel_rfl)) (fun _ _ _ h => h) (Or.inl ⟨by rfl, ?_⟩) ?_ ?_
                            rotate_left
                            · intro w'
                              go_simp
                              with_reducible rfl
                            rotate_left
                            · simp only [Act.put, List.setIfInBounds_toArray, List.set_cons_zero, List.set_cons_succ, i64_w, i32_w]
                              rfl
                            refine pure_ (i := 11) (N := some 36) (v := ?_) (a' := ?_) #[true, true, true, true, true, true, true, true, true, true, true, true, false, false, false] rfl rfl (any_of HT_.out (by kernel_rfl)) (fun _ _ _ h => h) (Or.inl ⟨by rfl, ?_⟩) ?_ ?_
                            rotate_left
                            · intro w'
                              go_simp
                              with_reducible rfl
                            rotate_left
                            · simp only [Act.put, List.setIfInBounds_toArray, List.set_cons_zero, List.set_cons_succ, i64_w, i32_w]
                              rfl
                            refine one_ (i := 12) (N := some 9) #[true, true, true, true, true, true, true, true, true, true, true, true, true, false, false] rfl rfl (one_of HT_.out (by kernel_rfl)) (by decide) (fun K hK => ?_)
                            refine box_step ?hg (N := 9) ?hd (cs := #[.int .i64 0, .slice none 0 0]) (t := 74) ?hr ?_; (case hd => rfl); (case hg => rfl); (case hr => first | (go_simp; done) | (go_simp; rfl))
                            intro gb303 hg w25 hbox hb
                            have n0_ := Aside0.mk (Kd.N_below (Kd.N_elderB (by (with_reducible repeat (first | apply Kd.N_alloc | apply Kd.N_drewN | apply Kd.N_drew)); exact HO_6.out) gb303 (Nat.le_of_eq hg.symm)) hb)
                            have n1_ := Aside0.mk (Kd.R_below (by (with_reducible repeat (first | apply Kd.R_alloc | apply Kd.R_drewN | apply Kd.R_drew)); exact HO301.out) hb)
                            have n2_ := Aside0.mk (below_step (by repeat (first | (with_reducible first | exact HB.out | apply below_alloc | apply pw_below_drewN | apply below_drew1) | exact HB.out)) hb)
                            have n3_ := Aside0.mk (hbox)
                            have n4_ := Aside0.mk ((by rw [hg]; exact (below_size (by repeat (first | (with_reducible first | exact HB.out | apply below_alloc | apply pw_below_drewN | apply below_drew1) | exact HB.out))) : w.heap.size ≤ gb303))
                            have n5_ := Aside0.mk ((by rw [hg]; exact (below_size (by repeat (first | (with_reducible first | exact HB.out | apply below_alloc | apply pw_below_drewN | apply below_drew1) | exact HB.out))) : w.heap.size ≤ gb303))
                            clear HO_6
                            clear HO301
                            clear HB
                            have HO_6 := n0_
                            have HO301 := n1_
                            have HB := n2_
                            have BK303 := n3_
                            have GW303 := n4_
                            have GE303 := n5_
                            clear n0_ n1_ n2_ n3_ n4_ n5_
                            clear hb hbox hg
                            refine hK.out _ _ ⟨((HB.out.cell (World.block_lt_of_cell? w _ hw296_0)).trans hw296_0), ((HB.out.cell (World.block_lt_of_cell? w _ hw296_1)).trans hw296_1), ((HB.out.cell (World.block_lt_of_cell? w _ hw297_0)).trans hw297_0), ((HB.out.cell (World.block_lt_of_cell? w _ hw297_1)).trans hw297_1)⟩ (fun hHeld => ?_)
                            clear hK K
                            refine norm_ (a' := ?_) ?_ ?_
                            rotate_left
                            · show Act.put _ (some 9) _ = _
                              simp only [Act.put, List.setIfInBounds_toArray, List.set_cons_zero, List.set_cons_succ, i64_w, i32_w]
                              rfl
                            exact norm_ (by simp only [putAll, Act.put, List.setIfInBounds_toArray, List.set_cons_zero, List.set_cons_succ]) (hCont (v300, gb303) _ ⟨hHeld, (by (with_reducible repeat (first | apply Kd.R_alloc | apply Kd.R_drewN | apply Kd.R_drew)); exact Kd.R_mono HO301.out (fun _ hk => hk.1)), (by (with_reducible repeat (first | apply Kd.N_alloc | apply Kd.N_drewN | apply Kd.N_drew)); exact Kd.N_mono HO_6.out (fun _ hk => ⟨hk.1.1, ⟨hk.1.2, hk.2⟩⟩)), (by (with_reducible repeat (first | refine blk_drewN ?_ _ | refine blk_drew ?_ | refine blk_alloc ?_ _)); exact BK303.out), GW303.out, GE303.out, (by repeat (first | (with_reducible first | exact HB.out | apply below_alloc | apply pw_below_drewN | apply below_drew1 | refine below_set ?_ GE303.out) | exact HB.out))⟩)
                          · skip
                            refine box_step ?hg (N := 9) ?hd (cs := #[.int .i64 0, .slice none 0 0]) (t := 74) ?hr ?_; (case hd => rfl); (case hg => rfl); (case hr => first | (go_simp; done) | (go_simp; rfl))
                            intro gb303 hg w24 hbox hb
                            have n0_ := Aside0.mk (Kd.N_below (Kd.N_elderB (by (with_reducible repeat (first | apply Kd.N_alloc | apply Kd.N_drewN | apply Kd.N_drew)); exact HO_6.out) gb303 (Nat.le_of_eq hg.symm)) hb)
                            have n1_ := Aside0.mk (below_step (by repeat (first | (with_reducible first | exact HB.out | apply below_alloc | apply pw_below_drewN | apply below_drew1) | exact HB.out)) hb)
                            have n2_ := Aside0.mk (hbox)
                            have n3_ := Aside0.mk ((by rw [hg]; exact (below_size (by repeat (first | (with_reducible first | exact HB.out | apply below_alloc | apply pw_below_drewN | apply below_drew1) | exact HB.out))) : w.heap.size ≤ gb303))
                            have n4_ := Aside0.mk ((by rw [hg]; exact (below_size (by repeat (first | (with_reducible first | exact HB.out | apply below_alloc | apply pw_below_drewN | apply below_drew1) | exact HB.out))) : w.heap.size ≤ gb303))
                            clear HO_6
                            clear HB
                            have HO_6 := n0_
                            have HB := n1_
                            have BK303 := n2_
                            have GW303 := n3_
                            have GE303 := n4_
                            clear n0_ n1_ n2_ n3_ n4_
                            clear hb hbox hg
                            refine hK.out _ _ ⟨((HB.out.cell (World.block_lt_of_cell? w _ hw296_0)).trans hw296_0), ((HB.out.cell (World.block_lt_of_cell? w _ hw296_1)).trans hw296_1), ((HB.out.cell (World.block_lt_of_cell? w _ hw297_0)).trans hw297_0), ((HB.out.cell (World.block_lt_of_cell? w _ hw297_1)).trans hw297_1)⟩ (fun hHeld => ?_)
                            clear hK K
                            refine norm_ (a' := ?_) ?_ ?_
                            rotate_left
                            · show Act.put _ (some 9) _ = _
                              simp only [Act.put, List.setIfInBounds_toArray, List.set_cons_zero, List.set_cons_succ, i64_w, i32_w]
                              rfl
                            refine one_ (i := 8) (N := some 34) #[true, true, true, true, true, true, true, true, true, false, false, false, true, false, false] rfl rfl (one_of HT_.out (by kernel_rfl)) (by decide) (fun K hK => ?_)
                            refine goes_ Try.func102 (by kernel_rfl) rfl #[.agg #[.int .i64 ((rd_T74 l0 x7_1).f0), .slice A296_1 ((rd_T74 l0 x7_1).f1).length c296_1], .agg #[.int .i64 ((rd_T74 l1 x8_2).f0), .slice A297_1 ((rd_T74 l1 x8_2).f1).length c297_1]] (by rfl) rfl rfl (by (try simp only [List.map_toArray, List.map_cons, List.map_nil]); first | done | rfl | (simp only [List.length_drop, List.length_take]; rfl)) ?_
                            with_reducible refine (tenetref24_times.calls k2 ((rd_T74 l0 x7_1).f0) _ _ ((rd_T74 l0 x7_1).f1) ((rd_T74 l1 x8_2).f0) _ _ ((rd_T74 l1 x8_2).f1) t298 t299 true _ ?side1 ?side2 ?side3 ?side4 A8.out).mono ?_
                            (case side1 => repeat (first | exact (Kd.C_below HR296_1.out HB.out) | (with_reducible refine Kd.C_alloc ?_ _) | (with_reducible refine Kd.C_drewN ?_ _) | (with_reducible refine Kd.C_drew ?_)))
                            (case side2 => exact HC296_1.out)
                            (case side3 => repeat (first | exact (Kd.C_below HR297_1.out HB.out) | (with_reducible refine Kd.C_alloc ?_ _) | (with_reducible refine Kd.C_drewN ?_ _) | (with_reducible refine Kd.C_drew ?_)))
                            (case side4 => exact HC297_1.out)
                            rintro e w25 ⟨v300, rfl, ho0, hb⟩
                            refine ⟨_, rfl, ?_⟩
                            have n0_ := Aside0.mk (Kd.N_elder' (by (with_reducible repeat (first | apply Kd.N_alloc | apply Kd.N_drewN | apply Kd.N_drew)); exact HO_6.out) (Kd.R_base ho0) hb)
                            have n1_ := Aside0.mk (Kd.R_lower (Kd.R_newM (M := fun k_ => (w.heap.size ≤ k_)) ho0 (below_size (by repeat (first | (with_reducible first | exact HB.out | apply below_alloc | apply pw_below_drewN | apply below_drew1 | refine below_set ?_ GE303.out) | exact HB.out))) (fun k_ h_ => h_)) (below_size (by repeat (first | (with_reducible first | exact HB.out | apply below_alloc | apply pw_below_drewN | apply below_drew1 | refine below_set ?_ GE303.out) | exact HB.out))))
                            have n2_ := Aside0.mk (blk_below (g := gb303) (o := .cells #[.int .i64 0, .slice none 0 0] 74 (0, 0)) (by (with_reducible repeat (first | refine blk_drewN ?_ _ | refine blk_drew ?_ | refine blk_alloc ?_ _)); exact BK303.out) hb)
                            have n3_ := Aside0.mk (below_step (by repeat (first | (with_reducible first | exact HB.out | apply below_alloc | apply pw_below_drewN | apply below_drew1 | refine below_set ?_ GE303.out) | exact HB.out)) hb)
                            clear HO_6
                            clear BK303
                            clear HB
                            have HO_6 := n0_
                            have HO301 := n1_
                            have BK303 := n2_
                            have HB := n3_
                            clear n0_ n1_ n2_ n3_
                            (try clear hb)
                            (try clear hb2)
                            (try clear hk)
                            (try clear hi)
                            (try clear ho0)
                            refine hK.out _ _ ⟨((HB.out.cell (World.block_lt_of_cell? w _ hw296_0)).trans hw296_0), ((HB.out.cell (World.block_lt_of_cell? w _ hw296_1)).trans hw296_1), ((HB.out.cell (World.block_lt_of_cell? w _ hw297_0)).trans hw297_0), ((HB.out.cell (World.block_lt_of_cell? w _ hw297_1)).trans hw297_1)⟩ (fun hHeld => ?_)
                            clear hK K
                            refine norm_ (a' := ?_) ?_ ?_
                            rotate_left
                            · show Act.put _ (some 34) _ = _
                              simp only [Act.put, List.setIfInBounds_toArray, List.set_cons_zero, List.set_cons_succ, i64_w, i32_w]
                              rfl
                            refine pure_ (i := 9) (N := some 25) (v := ?_) (a' := ?_) #[true, true, true, true, true, true, true, true, true, true, false, false, true, false, false] rfl rfl (any_of HT_.out (by kernel_rfl)) (fun _ _ _ h => h) (Or.inl ⟨by rfl, ?_⟩) ?_ ?_
                            rotate_left
                            · intro w'
                              go_simp
                              with_reducible rfl
                            rotate_left
                            · simp only [Act.put, List.setIfInBounds_toArray, List.set_cons_zero, List.set_cons_succ, i64_w, i32_w]
                              rfl
                            refine pure_ (i := 10) (N := some 35) (v := ?_) (a' := ?_) #[true, true, true, true, true, true, true, true, true, true, true, false, true, false, false] rfl rfl (any_of HT_.out (by kernel_rfl)) (fun _ _ _ h => h) (Or.inl ⟨by rfl, ?_⟩) ?_ ?_
                            rotate_left
                            · intro w'
                              go_simp
                              with_reducible rfl
                            rotate_left
                            · simp only [Act.put, List.setIfInBounds_toArray, List.set_cons_zero, List.set_cons_succ, i64_w, i32_w]
                              rfl
                            refine pure_ (i := 11) (N := some 36) (v := ?_) (a' := ?_) #[true, true, true, true, true, true, true, true, true, true, true, true, true, false, false] rfl rfl (any_of HT_.out (by kernel_rfl)) (fun _ _ _ h => h) (Or.inl ⟨by rfl, ?_⟩) ?_ ?_
                            rotate_left
                            · intro w'
                              go_simp
                              with_reducible rfl
                            rotate_left
                            · simp only [Act.put, List.setIfInBounds_toArray, List.set_cons_zero, List.set_cons_succ, i64_w, i32_w]
                              rfl
                            exact norm_ (by simp only [putAll, Act.put, List.setIfInBounds_toArray, List.set_cons_zero, List.set_cons_succ]) (hCont (v300, gb303) _ ⟨hHeld, (by (with_reducible repeat (first | apply Kd.R_alloc | apply Kd.R_drewN | apply Kd.R_drew)); exact Kd.R_mono HO301.out (fun _ hk => hk.1)), (by (with_reducible repeat (first | apply Kd.N_alloc | apply Kd.N_drewN | apply Kd.N_drew)); exact Kd.N_mono HO_6.out (fun _ hk => ⟨hk.1.1, ⟨hk.2, hk.1.2⟩⟩)), (by (with_reducible repeat (first | refine blk_drewN ?_ _ | refine blk_drew ?_ | refine blk_alloc ?_ _)); exact BK303.out), GW303.out, GE303.out, (by repeat (first | (with_reducible first | exact HB.out | apply below_alloc | apply pw_below_drewN | apply below_drew1 | refine below_set ?_ GE303.out) | exact HB.out))⟩)
                        rintro ⟨v300, gb303⟩ w26 ⟨hS_, h0_, h1_, h2_, h3_, h4_, h5_⟩
                        have n0_ : Aside0 (Kd.R (Kd.int .i64) 3 w26 w.heap.size (fun k_ => (w.heap.size ≤ k_)) v300 t299) := ⟨h0_⟩
                        have n1_ : Aside0 (Kd.N k74 74 w26 w.heap.size (fun k_ => (w.heap.size ≤ k_) ∧ some k_ ≠ (v300 : Value).ownBlock ∧ k_ ≠ gb303) u6 x6_2) := ⟨h1_⟩
                        have n2_ : Aside0 (w26.heap[gb303]? = some (.cells #[.int .i64 0, .slice none 0 0] 74 (0, 0))) := ⟨h2_⟩
                        have n3_ : Aside0 (w.heap.size ≤ gb303) := ⟨h3_⟩
                        have n4_ : Aside0 (w.heap.size ≤ gb303) := ⟨h4_⟩
                        have n5_ : Aside0 (Below w.heap.size w w26) := ⟨h5_⟩
                        clear HO_6
                        clear HB
                        clear h0_ h1_ h2_ h3_ h4_ h5_
                        have HO301 := n0_
                        have HO_6 := n1_
                        have BK303 := n2_
                        have GW303 := n3_
                        have GE303 := n4_
                        have HB := n5_
                        clear n0_ n1_ n2_ n3_ n4_ n5_
                        have hHeld : w26.cell? (ad296.add ((x7_1).toNat * 2)) = some (.int .i64 ((rd_T74 l0 x7_1).f0)) ∧ w26.cell? ⟨(ad296.add ((x7_1).toNat * 2)).block, (ad296.add ((x7_1).toNat * 2)).off + 1, none⟩ = some (.slice A296_1 ((rd_T74 l0 x7_1).f1).length c296_1) ∧ w26.cell? (ad297.add ((x8_2).toNat * 2)) = some (.int .i64 ((rd_T74 l1 x8_2).f0)) ∧ w26.cell? ⟨(ad297.add ((x8_2).toNat * 2)).block, (ad297.add ((x8_2).toNat * 2)).off + 1, none⟩ = some (.slice A297_1 ((rd_T74 l1 x8_2).f1).length c297_1) := hS_
                        obtain ⟨Ao28, co28, eo28⟩ := Kd.R_slice HO301.out
                        (first | subst eo28 | (injection eo28 with f1_ f2_ f3_; have f4_ := f1_.symm; have f5_ := f3_.symm; clear f1_ f2_ f3_; subst f4_; subst f5_))
                        refine norm_ (a' := ?_) ?_ ?_
                        rotate_left
                        · simp only [putAll, Act.put, List.setIfInBounds_toArray, List.set_cons_zero, List.set_cons_succ]
                          rfl
                        refine one_ (i := 13) (N := none) #[true, true, true, true, true, true, true, true, true, true, true, true, true, true, false] rfl rfl (one_of HT_.out (by kernel_rfl)) (by decide) (fun K hK => ?_)
                        have hs27 : w26.cell? ⟨gb303, 0, none⟩ = some (.int .i64 0) := (blk_cell BK303.out 0).trans rfl
                        have hfs27 := blk_frozen BK303.out 0
                        have hs29 : w26.cell? ⟨gb303, 1, none⟩ = some (.slice none 0 0) := (blk_cell BK303.out 1).trans rfl
                        have hfs29 := blk_frozen BK303.out 1
                        refine skip_ (w1 := ?_) (by rfl) rfl ?_ ?_
                        rotate_left
                        · go_simp
                          rfl
                        refine hK.out _ _ ⟨((cell_far (p := ⟨gb303, _, none⟩) (by first | exact Nat.ne_of_lt (Nat.lt_of_lt_of_le (by have := World.block_lt_of_cell? _ _ hw296_0; first | rwa [add_block] at this | exact this) GW303.out) | (rw [add_block]; exact Nat.ne_of_lt (Nat.lt_of_lt_of_le (by have := World.block_lt_of_cell? _ _ hw296_0; first | rwa [add_block] at this | exact this) GW303.out)) | (show (Addr.add _ _).block ≠ _; rw [add_block]; exact Nat.ne_of_lt (Nat.lt_of_lt_of_le (by have := World.block_lt_of_cell? _ _ hw296_0; first | rwa [add_block] at this | exact this) GW303.out)) | (dsimp only; exact Nat.ne_of_lt (Nat.lt_of_lt_of_le (by have := World.block_lt_of_cell? _ _ hw296_0; first | rwa [add_block] at this | exact this) GW303.out))) _).trans (((cell_far (p := ⟨gb303, _, none⟩) (by first | exact Nat.ne_of_lt (Nat.lt_of_lt_of_le (by have := World.block_lt_of_cell? _ _ hw296_0; first | rwa [add_block] at this | exact this) GW303.out) | (rw [add_block]; exact Nat.ne_of_lt (Nat.lt_of_lt_of_le (by have := World.block_lt_of_cell? _ _ hw296_0; first | rwa [add_block] at this | exact this) GW303.out)) | (show (Addr.add _ _).block ≠ _; rw [add_block]; exact Nat.ne_of_lt (Nat.lt_of_lt_of_le (by have := World.block_lt_of_cell? _ _ hw296_0; first | rwa [add_block] at this | exact this) GW303.out)) | (dsimp only; exact Nat.ne_of_lt (Nat.lt_of_lt_of_le (by have := World.block_lt_of_cell? _ _ hw296_0; first | rwa [add_block] at this | exact this) GW303.out))) _).trans (hHeld.1)))), ((cell_far (p := ⟨gb303, _, none⟩) (by first | exact Nat.ne_of_lt (Nat.lt_of_lt_of_le (by have := World.block_lt_of_cell? _ _ hw296_1; first | rwa [add_block] at this | exact this) GW303.out) | (rw [add_block]; exact Nat.ne_of_lt (Nat.lt_of_lt_of_le (by have := World.block_lt_of_cell? _ _ hw296_1; first | rwa [add_block] at this | exact this) GW303.out)) | (show (Addr.add _ _).block ≠ _; rw [add_block]; exact Nat.ne_of_lt (Nat.lt_of_lt_of_le (by have := World.block_lt_of_cell? _ _ hw296_1; first | rwa [add_block] at this | exact this) GW303.out)) | (dsimp only; exact Nat.ne_of_lt (Nat.lt_of_lt_of_le (by have := World.block_lt_of_cell? _ _ hw296_1; first | rwa [add_block] at this | exact this) GW303.out))) _).trans (((cell_far (p := ⟨gb303, _, none⟩) (by first | exact Nat.ne_of_lt (Nat.lt_of_lt_of_le (by have := World.block_lt_of_cell? _ _ hw296_1; first | rwa [add_block] at this | exact this) GW303.out) | (rw [add_block]; exact Nat.ne_of_lt (Nat.lt_of_lt_of_le (by have := World.block_lt_of_cell? _ _ hw296_1; first | rwa [add_block] at this | exact this) GW303.out)) | (show (Addr.add _ _).block ≠ _; rw [add_block]; exact Nat.ne_of_lt (Nat.lt_of_lt_of_le (by have := World.block_lt_of_cell? _ _ hw296_1; first | rwa [add_block] at this | exact this) GW303.out)) | (dsimp only; exact Nat.ne_of_lt (Nat.lt_of_lt_of_le (by have := World.block_lt_of_cell? _ _ hw296_1; first | rwa [add_block] at this | exact this) GW303.out))) _).trans (hHeld.2.1)))), ((cell_far (p := ⟨gb303, _, none⟩) (by first | exact Nat.ne_of_lt (Nat.lt_of_lt_of_le (by have := World.block_lt_of_cell? _ _ hw297_0; first | rwa [add_block] at this | exact this) GW303.out) | (rw [add_block]; exact Nat.ne_of_lt (Nat.lt_of_lt_of_le (by have := World.block_lt_of_cell? _ _ hw297_0; first | rwa [add_block] at this | exact this) GW303.out)) | (show (Addr.add _ _).block ≠ _; rw [add_block]; exact Nat.ne_of_lt (Nat.lt_of_lt_of_le (by have := World.block_lt_of_cell? _ _ hw297_0; first | rwa [add_block] at this | exact this) GW303.out)) | (dsimp only; exact Nat.ne_of_lt (Nat.lt_of_lt_of_le (by have := World.block_lt_of_cell? _ _ hw297_0; first | rwa [add_block] at this | exact this) GW303.out))) _).trans (((cell_far (p := ⟨gb303, _, none⟩) (by first | exact Nat.ne_of_lt (Nat.lt_of_lt_of_le (by have := World.block_lt_of_cell? _ _ hw297_0; first | rwa [add_block] at this | exact this) GW303.out) | (rw [add_block]; exact Nat.ne_of_lt (Nat.lt_of_lt_of_le (by have := World.block_lt_of_cell? _ _ hw297_0; first | rwa [add_block] at this | exact this) GW303.out)) | (show (Addr.add _ _).block ≠ _; rw [add_block]; exact Nat.ne_of_lt (Nat.lt_of_lt_of_le (by have := World.block_lt_of_cell? _ _ hw297_0; first | rwa [add_block] at this | exact this) GW303.out)) | (dsimp only; exact Nat.ne_of_lt (Nat.lt_of_lt_of_le (by have := World.block_lt_of_cell? _ _ hw297_0; first | rwa [add_block] at this | exact this) GW303.out))) _).trans (hHeld.2.2.1)))), ((cell_far (p := ⟨gb303, _, none⟩) (by first | exact Nat.ne_of_lt (Nat.lt_of_lt_of_le (by have := World.block_lt_of_cell? _ _ hw297_1; first | rwa [add_block] at this | exact this) GW303.out) | (rw [add_block]; exact Nat.ne_of_lt (Nat.lt_of_lt_of_le (by have := World.block_lt_of_cell? _ _ hw297_1; first | rwa [add_block] at this | exact this) GW303.out)) | (show (Addr.add _ _).block ≠ _; rw [add_block]; exact Nat.ne_of_lt (Nat.lt_of_lt_of_le (by have := World.block_lt_of_cell? _ _ hw297_1; first | rwa [add_block] at this | exact this) GW303.out)) | (dsimp only; exact Nat.ne_of_lt (Nat.lt_of_lt_of_le (by have := World.block_lt_of_cell? _ _ hw297_1; first | rwa [add_block] at this | exact this) GW303.out))) _).trans (((cell_far (p := ⟨gb303, _, none⟩) (by first | exact Nat.ne_of_lt (Nat.lt_of_lt_of_le (by have := World.block_lt_of_cell? _ _ hw297_1; first | rwa [add_block] at this | exact this) GW303.out) | (rw [add_block]; exact Nat.ne_of_lt (Nat.lt_of_lt_of_le (by have := World.block_lt_of_cell? _ _ hw297_1; first | rwa [add_block] at this | exact this) GW303.out)) | (show (Addr.add _ _).block ≠ _; rw [add_block]; exact Nat.ne_of_lt (Nat.lt_of_lt_of_le (by have := World.block_lt_of_cell? _ _ hw297_1; first | rwa [add_block] at this | exact this) GW303.out)) | (dsimp only; exact Nat.ne_of_lt (Nat.lt_of_lt_of_le (by have := World.block_lt_of_cell? _ _ hw297_1; first | rwa [add_block] at this | exact this) GW303.out))) _).trans (hHeld.2.2.2))))⟩ (fun hHeld => ?_)
                        clear hK K
                        refine pure_ (i := 14) (N := some 10) (v := ?_) (a' := ?_) #[true, true, true, true, true, true, true, true, true, true, true, true, true, true, true] rfl rfl (any_of HT_.out (by kernel_rfl)) (fun _ _ _ h => h) (Or.inl ⟨by rfl, ?_⟩) ?_ ?_
                        rotate_left
                        · intro w'
                          go_simp
                          with_reducible rfl
                        rotate_left
                        · simp only [Act.put, List.setIfInBounds_toArray, List.set_cons_zero, List.set_cons_succ, i64_w, i32_w]
                          rfl
                        refine done_ (done_of HT_.out (by kernel_rfl)) ?_
                        have n0_ : Aside0 (Kd.N k74 74 ((w26.setCell ⟨gb303, 0, none⟩ (.int .i64 t298)).setCell ⟨gb303, 1, none⟩ (.slice Ao28 t299.length co28)) w.heap.size (fun k_ => (w.heap.size ≤ k_) ∧ some k_ ≠ (.slice Ao28 t299.length co28 : Value).ownBlock ∧ k_ ≠ gb303) u6 x6_2) := ⟨by (with_reducible repeat (first | apply Kd.N_alloc | apply Kd.N_drewN | apply Kd.N_drew)); exact Kd.N_mono (Kd.N_far (p := ⟨gb303, 1, none⟩) (Kd.N_far (p := ⟨gb303, 0, none⟩) (Kd.N_mono HO_6.out (fun k_ hk => (⟨hk, hk.2.2⟩ : _ ∧ k_ ≠ gb303))) (fun _ hk => hk.2) (.int .i64 t298)) (fun _ hk => hk.2) (.slice Ao28 t299.length co28)) (fun _ hk => ⟨hk.1.1, ⟨hk.1.2.1, hk.1.2.2⟩⟩)⟩
                        have n1_ : Aside0 (Kd.R (Kd.int .i64) 3 ((w26.setCell ⟨gb303, 0, none⟩ (.int .i64 t298)).setCell ⟨gb303, 1, none⟩ (.slice Ao28 t299.length co28)) w.heap.size (fun k_ => (w.heap.size ≤ k_)) (.slice Ao28 t299.length co28) t299) := ⟨by (with_reducible repeat (first | apply Kd.R_alloc | apply Kd.R_drewN | apply Kd.R_drew)); exact Kd.R_mono (Kd.R_far (p := ⟨gb303, 1, none⟩) (Kd.R_far (p := ⟨gb303, 0, none⟩) (Kd.R_types HO301.out BK303.out (by decide)) (fun _ hk => hk.2) (.int .i64 t298)) (fun _ hk => hk.2) (.slice Ao28 t299.length co28)) (fun _ hk => hk.1)⟩
                        have n2_ : Aside0 (((w26.setCell ⟨gb303, 0, none⟩ (.int .i64 t298)).setCell ⟨gb303, 1, none⟩ (.slice Ao28 t299.length co28)).heap[gb303]? = some (.cells #[.int .i64 t298, .slice Ao28 t299.length co28] 74 (0, 0))) := ⟨by (with_reducible repeat (first | refine blk_drewN ?_ _ | refine blk_drew ?_ | refine blk_alloc ?_ _)); refine blk_put (cs := #[.int .i64 t298, .slice none 0 0]) ?_ 1 _ rfl; (with_reducible repeat (first | refine blk_drewN ?_ _ | refine blk_drew ?_ | refine blk_alloc ?_ _)); refine blk_put (cs := #[.int .i64 0, .slice none 0 0]) ?_ 0 _ rfl; (with_reducible repeat (first | refine blk_drewN ?_ _ | refine blk_drew ?_ | refine blk_alloc ?_ _)); exact BK303.out⟩
                        have n3_ : Aside0 (Below w.heap.size w ((w26.setCell ⟨gb303, 0, none⟩ (.int .i64 t298)).setCell ⟨gb303, 1, none⟩ (.slice Ao28 t299.length co28))) := ⟨by repeat (first | (with_reducible first | exact HB.out | apply below_alloc | apply pw_below_drewN | apply below_drew1 | refine below_set ?_ GE303.out) | exact HB.out)⟩
                        (try clear HO_6)
                        (try clear HO301)
                        (try clear BK303)
                        (try clear HB)
                        generalize ((w26.setCell ⟨gb303, 0, none⟩ (.int .i64 t298)).setCell ⟨gb303, 1, none⟩ (.slice Ao28 t299.length co28)) = w30 at n0_ n1_ n2_ n3_ ⊢
                        have HO_6 := n0_
                        have HO301 := n1_
                        have BK303 := n2_
                        have HB := n3_
                        clear n0_ n1_ n2_ n3_
                        have hcz31_0 : w30.cell? ⟨gb303, 0, none⟩ = some (.int .i64 t298) := (blk_cell BK303.out 0).trans rfl
                        have hcz31_1 : w30.cell? ⟨gb303, 1, none⟩ = some (.slice Ao28 t299.length co28) := (blk_cell BK303.out 1).trans rfl
                        have hfz31_0 := blk_frozen BK303.out 0
                        have hfz31_1 := blk_frozen BK303.out 1
                        obtain ⟨Ao32, co32, eo32⟩ := Kd.N_slice HO_6.out
                        subst eo32
                        try go_wp2_with (first | ((with_reducible refine gate_callee (f := 100) rfl ?_); refine goesL_ (some 42) rfl rfl Try.func100 (by kernel_rfl) rfl #[.slice Ao32 x6_2.length co32, .agg #[.int .i64 t298, .slice Ao28 t299.length co28]] rfl (by (try simp only [List.map_toArray, List.map_cons, List.map_nil]); first | done | rfl | (simp only [List.length_drop, List.length_take]; rfl)) ?_; (with_reducible refine (tenetref24_into.calls k2 (fun k_ => ((w.heap.size ≤ k_) ∧ (some k_ ≠ (.slice Ao28 t299.length co28 : Value).ownBlock ∧ k_ ≠ gb303))) _ _ x6_2 t298 (fun k_ => some k_ = (.slice Ao28 t299.length co28 : Value).ownBlock) _ _ t299 t304 false _ ?side1 ?side2 A10.out).mono ?_); (case side1 => exact Kd.N_V (HO_6.out)); (case side2 => exact Kd.R_V (Kd.R_tight rfl (Kd.R_types (Kd.R_apart' (HO301.out) (Kd.N_typed HO_6.out) (by decide)) BK303.out (by decide)))); rintro e w33 ⟨v305, rfl, ho0, hb⟩; refine ⟨_, rfl, ?_⟩; have n0_ := Aside0.mk (Kd.N_elder' (by (with_reducible repeat (first | apply Kd.N_alloc | apply Kd.N_drewN | apply Kd.N_drew)); exact HO_6.out) (Kd.N_base ho0) hb); have n1_ := Aside0.mk (Kd.R_below (by (with_reducible repeat (first | apply Kd.R_alloc | apply Kd.R_drewN | apply Kd.R_drew)); exact HO301.out) hb); have n2_ := Aside0.mk (Kd.N_lower (Kd.N_mono (ok' := fun k_ => (w.heap.size ≤ k_) ∧ k_ ≠ gb303) ho0 (fun k_ hk_ => ⟨Or.elim hk_ (fun hs_ => Or.elim hs_ (fun hs_ => hs_.1) (fun hs_ => ((Kd.R_types (Kd.R_apart' (HO301.out) (Kd.N_typed HO_6.out) (by decide)) BK303.out (by decide)).1 k_ hs_.symm).1.1)) (fun hn_ => (Nat.le_trans (below_size (by repeat (first | (with_reducible first | exact HB.out | apply below_alloc | apply pw_below_drewN | apply below_drew1 | refine below_set ?_ GE303.out) | exact HB.out))) hn_)), Or.elim hk_ (fun hs_ => Or.elim hs_ (fun hs_ => hs_.2.2) (fun hs_ => ((Kd.R_types (Kd.R_apart' (HO301.out) (Kd.N_typed HO_6.out) (by decide)) BK303.out (by decide)).1 k_ hs_.symm).2)) (fun hn_ => (Kd.freshB (g := gb303) (o := .cells #[.int .i64 t298, .slice Ao28 t299.length co28] 74 (0, 0)) (by (with_reducible repeat (first | refine blk_drewN ?_ _ | refine blk_drew ?_ | refine blk_alloc ?_ _)); exact BK303.out) k_ hn_))⟩)) (below_size (by repeat (first | (with_reducible first | exact HB.out | apply below_alloc | apply pw_below_drewN | apply below_drew1 | refine below_set ?_ GE303.out) | exact HB.out)))); have n3_ := Aside0.mk (blk_below (g := gb303) (o := .cells #[.int .i64 t298, .slice Ao28 t299.length co28] 74 (0, 0)) (by (with_reducible repeat (first | refine blk_drewN ?_ _ | refine blk_drew ?_ | refine blk_alloc ?_ _)); exact BK303.out) hb); have n4_ := Aside0.mk (below_step (by repeat (first | (with_reducible first | exact HB.out | apply below_alloc | apply pw_below_drewN | apply below_drew1 | refine below_set ?_ GE303.out) | exact HB.out)) hb); clear HO_6; clear HO301; clear BK303; clear HB; have HO_6 := n0_; have HO301 := n1_; have HO306 := n2_; have BK303 := n3_; have HB := n4_; clear n0_ n1_ n2_ n3_ n4_; (try clear hb); (try clear hb2); (try clear hk); (try clear hi); (try clear ho0)))
                        go_ret2
                        exact ⟨_, by first | rfl | (simp [errW_none, errW_some] <;> rfl) | (simp [*, errW_none, errW_some] <;> rfl), by first | exact Kd.S_nil _ _ _ _ _ | exact Kd.N_nil _ _ _ _ _ | exact Kd.V_nil _ _ _ _ _ | exact Kd.Q_nil _ _ _ _ _ | exact Kd.R_nil _ _ _ _ _, by repeat (first | (with_reducible first | exact HB.out | apply below_alloc | apply pw_below_drewN | apply below_drew1 | refine below_set ?_ GE303.out) | exact HB.out)⟩
                    · replace c9 := Bool.eq_false_iff.mpr c9
                      subst c9
                      have H1 : (some (([] : List (S74)), false)) = some (r1, r2) := by rw [if_neg (show ¬ (false = true) by decide)] at H; exact H
                      clear H
                      have H := H1
                      clear H1
                      simp only [Option.some.injEq, Prod.mk.injEq] at H
                      obtain ⟨rfl, rfl⟩ := H
                      try go_wp2
                      have n0_ := Aside0.mk (Kd.N_drew HO_6.out)
                      have n1_ := Aside0.mk (below_drew1 HB.out)
                      clear HO_6
                      clear HB
                      have HO_6 := n0_
                      have HB := n1_
                      clear n0_ n1_
                      have p296 : 0 ≤ (x7_1 : Int) := of_decide_eq_true (by first | (with_reducible assumption) | assumption)
                      have q296 : x7_1 < (l0.length : Int) := of_decide_eq_true (by first | (with_reducible assumption) | assumption)
                      obtain ⟨ad296, A296_1, c296_1, e296, hx296_0, hx296_1, hl296_1, hi296_1⟩ := at_T74 HR0.out x7_1 p296 q296
                      have hw296_1 := hx296_1
                      have hw296_0 := hx296_0
                      cases e296
                      replace hx296_0 := (HB.out.cell (World.block_lt_of_cell? w _ hx296_0)).trans hx296_0
                      replace hx296_1 := (HB.out.cell (World.block_lt_of_cell? w _ hx296_1)).trans hx296_1
                      have HR296_1 := Aside0.mk hi296_1
                      have HC296_1 := Aside0.mk hl296_1
                      clear hi296_1 hl296_1
                      replace p296 := eq_true p296
                      replace q296 := eq_true q296
                      have p297 : 0 ≤ (x8_2 : Int) := of_decide_eq_true (by first | (with_reducible assumption) | assumption)
                      have q297 : x8_2 < (l1.length : Int) := of_decide_eq_true (by first | (with_reducible assumption) | assumption)
                      obtain ⟨ad297, A297_1, c297_1, e297, hx297_0, hx297_1, hl297_1, hi297_1⟩ := at_T74 HR1.out x8_2 p297 q297
                      have hw297_1 := hx297_1
                      have hw297_0 := hx297_0
                      cases e297
                      replace hx297_0 := (HB.out.cell (World.block_lt_of_cell? w _ hx297_0)).trans hx297_0
                      replace hx297_1 := (HB.out.cell (World.block_lt_of_cell? w _ hx297_1)).trans hx297_1
                      have HR297_1 := Aside0.mk hi297_1
                      have HC297_1 := Aside0.mk hl297_1
                      clear hi297_1 hl297_1
                      replace p297 := eq_true p297
                      replace q297 := eq_true q297
                      refine start_ (n := 15) (S := fun w' => w'.cell? (ad296.add ((x7_1).toNat * 2)) = some (.int .i64 ((rd_T74 l0 x7_1).f0)) ∧ w'.cell? ⟨(ad296.add ((x7_1).toNat * 2)).block, (ad296.add ((x7_1).toNat * 2)).off + 1, none⟩ = some (.slice A296_1 ((rd_T74 l0 x7_1).f1).length c296_1) ∧ w'.cell? (ad297.add ((x8_2).toNat * 2)) = some (.int .i64 ((rd_T74 l1 x8_2).f0)) ∧ w'.cell? ⟨(ad297.add ((x8_2).toNat * 2)).block, (ad297.add ((x8_2).toNat * 2)).off + 1, none⟩ = some (.slice A297_1 ((rd_T74 l1 x8_2).f1).length c297_1)) (ds := []) #[false, false, false, false, false, false, false, false, false, false, false, false, false, false, false] (by kernel_rfl) rfl rfl ⟨((HB.out.cell (World.block_lt_of_cell? w _ hw296_0)).trans hw296_0), ((HB.out.cell (World.block_lt_of_cell? w _ hw296_1)).trans hw296_1), ((HB.out.cell (World.block_lt_of_cell? w _ hw297_0)).trans hw297_0), ((HB.out.cell (World.block_lt_of_cell? w _ hw297_1)).trans hw297_1)⟩ (fun hHeld => ?_); refine with_tabW tenetref24_mul.tab8 tenetref24_mul.bits8 (fun HT_ HW_ => ?_)
                      generalize wr.drew = w34 at HO_6 HB HR296_1 HR297_1 hx296_0 hx296_1 hx297_0 hx297_1 hHeld ⊢
                      refine pure_ (i := 0) (N := some 26) (v := ?_) (a' := ?_) #[true, false, false, false, false, false, false, false, false, false, false, false, false, false, false] rfl rfl (any_of HT_.out (by kernel_rfl)) (fun _ _ _ h => h) (Or.inl ⟨by rfl, ?_⟩) ?_ ?_
                      rotate_left
                      · intro w'
                        go_simp
                        with_reducible rfl
                      rotate_left
                      · simp only [Act.put, List.setIfInBounds_toArray, List.set_cons_zero, List.set_cons_succ, i64_w, i32_w]
                        rfl
                      refine pure_ (i := 1) (N := some 27) (v := ?_) (a' := ?_) #[true, true, false, false, false, false, false, false, false, false, false, false, false, false, false] rfl rfl (any_of HT_.out (by kernel_rfl)) (fun _ _ _ h => h) (Or.inl ⟨by rfl, ?_⟩) ?_ ?_
                      rotate_left
                      · intro w'
                        go_simp
                        with_reducible rfl
                      rotate_left
                      · simp only [Act.put, List.setIfInBounds_toArray, List.set_cons_zero, List.set_cons_succ, i64_w, i32_w]
                        rfl
                      refine pure_ (i := 2) (N := some 28) (v := ?_) (a' := ?_) #[true, true, true, false, false, false, false, false, false, false, false, false, false, false, false] rfl rfl (any_of HT_.out (by kernel_rfl)) (fun _ _ _ h => h) (Or.inl ⟨by rfl, ?_⟩) ?_ ?_
                      rotate_left
                      · intro w'
                        go_simp
                        with_reducible rfl
                      rotate_left
                      · simp only [Act.put, List.setIfInBounds_toArray, List.set_cons_zero, List.set_cons_succ, i64_w, i32_w]
                        rfl
                      refine pure_ (i := 4) (N := some 30) (v := ?_) (a' := ?_) #[true, true, true, false, true, false, false, false, false, false, false, false, false, false, false] rfl rfl (any_of HT_.out (by kernel_rfl)) (fun _ _ _ h => h) (Or.inl ⟨by rfl, ?_⟩) ?_ ?_
                      rotate_left
                      · intro w'
                        go_simp
                        with_reducible rfl
                      rotate_left
                      · simp only [Act.put, List.setIfInBounds_toArray, List.set_cons_zero, List.set_cons_succ, i64_w, i32_w]
                        rfl
                      refine pure_ (i := 5) (N := some 31) (v := ?_) (a' := ?_) #[true, true, true, false, true, true, false, false, false, false, false, false, false, false, false] rfl rfl (any_of HT_.out (by kernel_rfl)) (fun _ _ _ h => h) (Or.inl ⟨by rfl, ?_⟩) ?_ ?_
                      rotate_left
                      · intro w'
                        go_simp
                        with_reducible rfl
                      rotate_left
                      · simp only [Act.put, List.setIfInBounds_toArray, List.set_cons_zero, List.set_cons_succ, i64_w, i32_w]
                        rfl
                      refine pure_ (i := 6) (N := some 32) (v := ?_) (a' := ?_) #[true, true, true, false, true, true, true, false, false, false, false, false, false, false, false] rfl rfl (any_of HT_.out (by kernel_rfl)) (fun _ _ _ h => h) (Or.inl ⟨by rfl, ?_⟩) ?_ ?_
                      rotate_left
                      · intro w'
                        go_simp
                        with_reducible rfl
                      rotate_left
                      · simp only [Act.put, List.setIfInBounds_toArray, List.set_cons_zero, List.set_cons_succ, i64_w, i32_w]
                        rfl
                      refine take_ (i := 3) (N := some 29) (v := ?_) (a' := ?_) #[true, true, true, true, true, true, true, false, false, false, false, false, false, false, false] rfl rfl (take_ofW HT_.out HW_.out (by kernel_rfl)) (fun _ _ _ h => h) (Or.inl ⟨by rfl, ?_⟩) hHeld ?_ ?_
                      rotate_left
                      · rintro w' ⟨s0, s1, s2, s3⟩
                        go_simp
                        with_reducible rfl
                      rotate_left
                      · simp only [Act.put, List.setIfInBounds_toArray, List.set_cons_zero, List.set_cons_succ, i64_w, i32_w]
                        rfl
                      refine take_ (i := 7) (N := some 33) (v := ?_) (a' := ?_) #[true, true, true, true, true, true, true, true, false, false, false, false, false, false, false] rfl rfl (take_ofW HT_.out HW_.out (by kernel_rfl)) (fun _ _ _ h => h) (Or.inl ⟨by rfl, ?_⟩) hHeld ?_ ?_
                      rotate_left
                      · rintro w' ⟨s0, s1, s2, s3⟩
                        go_simp
                        with_reducible rfl
                      rotate_left
                      · simp only [Act.put, List.setIfInBounds_toArray, List.set_cons_zero, List.set_cons_succ, i64_w, i32_w]
                        rfl
                      refine join_ (σ := Value × Nat) 2 #[true, true, true, true, true, true, true, true, true, true, true, true, true, false, false] (fun s_ => [(34, .tuple #[.agg #[.int .i64 t298, s_.1], .bool false]), (9, .pointer (some ⟨s_.2, 0, none⟩)), (25, .tuple #[.agg #[.int .i64 t298, s_.1], .bool false]), (35, .agg #[.int .i64 t298, s_.1]), (36, .bool false)]) (fun s_ w' => (w'.cell? (ad296.add ((x7_1).toNat * 2)) = some (.int .i64 ((rd_T74 l0 x7_1).f0)) ∧ w'.cell? ⟨(ad296.add ((x7_1).toNat * 2)).block, (ad296.add ((x7_1).toNat * 2)).off + 1, none⟩ = some (.slice A296_1 ((rd_T74 l0 x7_1).f1).length c296_1) ∧ w'.cell? (ad297.add ((x8_2).toNat * 2)) = some (.int .i64 ((rd_T74 l1 x8_2).f0)) ∧ w'.cell? ⟨(ad297.add ((x8_2).toNat * 2)).block, (ad297.add ((x8_2).toNat * 2)).off + 1, none⟩ = some (.slice A297_1 ((rd_T74 l1 x8_2).f1).length c297_1)) ∧ (Kd.R (Kd.int .i64) 3 w' w.heap.size (fun k_ => (w.heap.size ≤ k_)) s_.1 t299) ∧ (Kd.N k74 74 w' w.heap.size (fun k_ => (w.heap.size ≤ k_) ∧ some k_ ≠ (s_.1 : Value).ownBlock ∧ k_ ≠ s_.2) u6 x6_2) ∧ (w'.heap[s_.2]? = some (.cells #[.int .i64 0, .slice none 0 0] 74 (0, 0))) ∧ (w.heap.size ≤ s_.2) ∧ (w.heap.size ≤ s_.2) ∧ (Below w.heap.size w w')) ?_ ?_
                      rotate_left
                      · intro hCont
                        refine two_ (i := 8) (j := 12) (Ni := some 34) (Nj := some 9) #[true, true, true, true, true, true, true, true, true, false, false, false, false, false, false] #[true, true, true, true, true, true, true, true, false, false, false, false, true, false, false] rfl rfl rfl rfl (two_of HT_.out (by kernel_rfl)) (by decide) (by decide) (fun K hK => ?_) (fun K hK => ?_)
                        · skip
                          refine goes_ Try.func102 (by kernel_rfl) rfl #[.agg #[.int .i64 ((rd_T74 l0 x7_1).f0), .slice A296_1 ((rd_T74 l0 x7_1).f1).length c296_1], .agg #[.int .i64 ((rd_T74 l1 x8_2).f0), .slice A297_1 ((rd_T74 l1 x8_2).f1).length c297_1]] (by rfl) rfl rfl (by (try simp only [List.map_toArray, List.map_cons, List.map_nil]); first | done | rfl | (simp only [List.length_drop, List.length_take]; rfl)) ?_
                          with_reducible refine (tenetref24_times.calls k2 ((rd_T74 l0 x7_1).f0) _ _ ((rd_T74 l0 x7_1).f1) ((rd_T74 l1 x8_2).f0) _ _ ((rd_T74 l1 x8_2).f1) t298 t299 false _ ?side1 ?side2 ?side3 ?side4 A8.out).mono ?_
                          (case side1 => repeat (first | exact (Kd.C_below HR296_1.out HB.out) | (with_reducible refine Kd.C_alloc ?_ _) | (with_reducible refine Kd.C_drewN ?_ _) | (with_reducible refine Kd.C_drew ?_)))
                          (case side2 => exact HC296_1.out)
                          (case side3 => repeat (first | exact (Kd.C_below HR297_1.out HB.out) | (with_reducible refine Kd.C_alloc ?_ _) | (with_reducible refine Kd.C_drewN ?_ _) | (with_reducible refine Kd.C_drew ?_)))
                          (case side4 => exact HC297_1.out)
                          rintro e w35 ⟨v300, rfl, ho0, hb⟩
                          refine ⟨_, rfl, ?_⟩
                          have n0_ := Aside0.mk (Kd.N_elder' (by (with_reducible repeat (first | apply Kd.N_alloc | apply Kd.N_drewN | apply Kd.N_drew)); exact HO_6.out) (Kd.R_base ho0) hb)
                          have n1_ := Aside0.mk (Kd.R_lower (Kd.R_newM (M := fun k_ => (w.heap.size ≤ k_)) ho0 (below_size (by repeat (first | (with_reducible first | exact HB.out | apply below_alloc | apply pw_below_drewN | apply below_drew1) | exact HB.out))) (fun k_ h_ => h_)) (below_size (by repeat (first | (with_reducible first | exact HB.out | apply below_alloc | apply pw_below_drewN | apply below_drew1) | exact HB.out))))
                          have n2_ := Aside0.mk (below_step (by repeat (first | (with_reducible first | exact HB.out | apply below_alloc | apply pw_below_drewN | apply below_drew1) | exact HB.out)) hb)
                          clear HO_6
                          clear HB
                          have HO_6 := n0_
                          have HO301 := n1_
                          have HB := n2_
                          clear n0_ n1_ n2_
                          (try clear hb)
                          (try clear hb2)
                          (try clear hk)
                          (try clear hi)
                          (try clear ho0)
                          refine hK.out _ _ ⟨((HB.out.cell (World.block_lt_of_cell? w _ hw296_0)).trans hw296_0), ((HB.out.cell (World.block_lt_of_cell? w _ hw296_1)).trans hw296_1), ((HB.out.cell (World.block_lt_of_cell? w _ hw297_0)).trans hw297_0), ((HB.out.cell (World.block_lt_of_cell? w _ hw297_1)).trans hw297_1)⟩ (fun hHeld => ?_)
                          clear hK K
                          refine norm_ (a' := ?_) ?_ ?_
                          rotate_left
                          · show Act.put _ (some 34) _ = _
                            simp only [Act.put, List.setIfInBounds_toArray, List.set_cons_zero, List.set_cons_succ, i64_w, i32_w]
                            rfl
                          refine pure_ (i := 9) (N := some 25) (v := ?_) (a' := ?_) #[true, true, true, true, true, true, true, true, true, true, false, false, false, false, false] rfl rfl (any_of HT_.out (by kernel_rfl)) (fun _ _ _ h => h) (Or.inl ⟨by rfl, ?_⟩) ?_ ?_
                          rotate_left
                          · intro w'
                            go_simp
                            with_reducible rfl
                          rotate_left
                          · simp only [Act.put, List.setIfInBounds_toArray, List.set_cons_zero, List.set_cons_succ, i64_w, i32_w]
                            rfl
                          refine pure_ (i := 10) (N := some 35) (v := ?_) (a' := ?_) #[true, true, true, true, true, true, true, true, true, true, true, false, false, false, false] rfl rfl (any_of HT_.out (by kernel_rfl)) (fun _ _ _ h => h) (Or.inl ⟨by rfl, ?_⟩) ?_ ?_
                          rotate_left
                          · intro w'
                            go_simp
                            with_reducible rfl
                          rotate_left
                          · simp only [Act.put, List.setIfInBounds_toArray, List.set_cons_zero, List.set_cons_succ, i64_w, i32_w]
                            rfl
                          refine pure_ (i := 11) (N := some 36) (v := ?_) (a' := ?_) #[true, true, true, true, true, true, true, true, true, true, true, true, false, false, false] rfl rfl (any_of HT_.out (by kernel_rfl)) (fun _ _ _ h => h) (Or.inl ⟨by rfl, ?_⟩) ?_ ?_
                          rotate_left
                          · intro w'
                            go_simp
                            with_reducible rfl
                          rotate_left
                          · simp only [Act.put, List.setIfInBounds_toArray, List.set_cons_zero, List.set_cons_succ, i64_w, i32_w]
                            rfl
                          refine one_ (i := 12) (N := some 9) #[true, true, true, true, true, true, true, true, true, true, true, true, true, false, false] rfl rfl (one_of HT_.out (by kernel_rfl)) (by decide) (fun K hK => ?_)
                          refine box_step ?hg (N := 9) ?hd (cs := #[.int .i64 0, .slice none 0 0]) (t := 74) ?hr ?_; (case hd => rfl); (case hg => rfl); (case hr => first | (go_simp; done) | (go_simp; rfl))
                          intro gb303 hg w36 hbox hb
                          have n0_ := Aside0.mk (Kd.N_below (Kd.N_elderB (by (with_reducible repeat (first | apply Kd.N_alloc | apply Kd.N_drewN | apply Kd.N_drew)); exact HO_6.out) gb303 (Nat.le_of_eq hg.symm)) hb)
                          have n1_ := Aside0.mk (Kd.R_below (by (with_reducible repeat (first | apply Kd.R_alloc | apply Kd.R_drewN | apply Kd.R_drew)); exact HO301.out) hb)
                          have n2_ := Aside0.mk (below_step (by repeat (first | (with_reducible first | exact HB.out | apply below_alloc | apply pw_below_drewN | apply below_drew1) | exact HB.out)) hb)
                          have n3_ := Aside0.mk (hbox)
                          have n4_ := Aside0.mk ((by rw [hg]; exact (below_size (by repeat (first | (with_reducible first | exact HB.out | apply below_alloc | apply pw_below_drewN | apply below_drew1) | exact HB.out))) : w.heap.size ≤ gb303))
                          have n5_ := Aside0.mk ((by rw [hg]; exact (below_size (by repeat (first | (with_reducible first | exact HB.out | apply below_alloc | apply pw_below_drewN | apply below_drew1) | exact HB.out))) : w.heap.size ≤ gb303))
                          clear HO_6
                          clear HO301
                          clear HB
                          have HO_6 := n0_
                          have HO301 := n1_
                          have HB := n2_
                          have BK303 := n3_
                          have GW303 := n4_
                          have GE303 := n5_
                          clear n0_ n1_ n2_ n3_ n4_ n5_
                          clear hb hbox hg
                          refine hK.out _ _ ⟨((HB.out.cell (World.block_lt_of_cell? w _ hw296_0)).trans hw296_0), ((HB.out.cell (World.block_lt_of_cell? w _ hw296_1)).trans hw296_1), ((HB.out.cell (World.block_lt_of_cell? w _ hw297_0)).trans hw297_0), ((HB.out.cell (World.block_lt_of_cell? w _ hw297_1)).trans hw297_1)⟩ (fun hHeld => ?_)
                          clear hK K
                          refine norm_ (a' := ?_) ?_ ?_
                          rotate_left
                          · show Act.put _ (some 9) _ = _
                            simp only [Act.put, List.setIfInBounds_toArray, List.set_cons_zero, List.set_cons_succ, i64_w, i32_w]
                            rfl
                          exact norm_ (by simp only [putAll, Act.put, List.setIfInBounds_toArray, List.set_cons_zero, List.set_cons_succ]) (hCont (v300, gb303) _ ⟨hHeld, (by (with_reducible repeat (first | apply Kd.R_alloc | apply Kd.R_drewN | apply Kd.R_drew)); exact Kd.R_mono HO301.out (fun _ hk => hk.1)), (by (with_reducible repeat (first | apply Kd.N_alloc | apply Kd.N_drewN | apply Kd.N_drew)); exact Kd.N_mono HO_6.out (fun _ hk => ⟨hk.1.1, ⟨hk.1.2, hk.2⟩⟩)), (by (with_reducible repeat (first | refine blk_drewN ?_ _ | refine blk_drew ?_ | refine blk_alloc ?_ _)); exact BK303.out), GW303.out, GE303.out, (by repeat (first | (with_reducible first | exact HB.out | apply below_alloc | apply pw_below_drewN | apply below_drew1 | refine below_set ?_ GE303.out) | exact HB.out))⟩)
                        · skip
                          refine box_step ?hg (N := 9) ?hd (cs := #[.int .i64 0, .slice none 0 0]) (t := 74) ?hr ?_; (case hd => rfl); (case hg => rfl); (case hr => first | (go_simp; done) | (go_simp; rfl))
                          intro gb303 hg w35 hbox hb
                          have n0_ := Aside0.mk (Kd.N_below (Kd.N_elderB (by (with_reducible repeat (first | apply Kd.N_alloc | apply Kd.N_drewN | apply Kd.N_drew)); exact HO_6.out) gb303 (Nat.le_of_eq hg.symm)) hb)
                          have n1_ := Aside0.mk (below_step (by repeat (first | (with_reducible first | exact HB.out | apply below_alloc | apply pw_below_drewN | apply below_drew1) | exact HB.out)) hb)
                          have n2_ := Aside0.mk (hbox)
                          have n3_ := Aside0.mk ((by rw [hg]; exact (below_size (by repeat (first | (with_reducible first | exact HB.out | apply below_alloc | apply pw_below_drewN | apply below_drew1) | exact HB.out))) : w.heap.size ≤ gb303))
                          have n4_ := Aside0.mk ((by rw [hg]; exact (below_size (by repeat (first | (with_reducible first | exact HB.out | apply below_alloc | apply pw_below_drewN | apply below_drew1) | exact HB.out))) : w.heap.size ≤ gb303))
                          clear HO_6
                          clear HB
                          have HO_6 := n0_
                          have HB := n1_
                          have BK303 := n2_
                          have GW303 := n3_
                          have GE303 := n4_
                          clear n0_ n1_ n2_ n3_ n4_
                          clear hb hbox hg
                          refine hK.out _ _ ⟨((HB.out.cell (World.block_lt_of_cell? w _ hw296_0)).trans hw296_0), ((HB.out.cell (World.block_lt_of_cell? w _ hw296_1)).trans hw296_1), ((HB.out.cell (World.block_lt_of_cell? w _ hw297_0)).trans hw297_0), ((HB.out.cell (World.block_lt_of_cell? w _ hw297_1)).trans hw297_1)⟩ (fun hHeld => ?_)
                          clear hK K
                          refine norm_ (a' := ?_) ?_ ?_
                          rotate_left
                          · show Act.put _ (some 9) _ = _
                            simp only [Act.put, List.setIfInBounds_toArray, List.set_cons_zero, List.set_cons_succ, i64_w, i32_w]
                            rfl
                          refine one_ (i := 8) (N := some 34) #[true, true, true, true, true, true, true, true, true, false, false, false, true, false, false] rfl rfl (one_of HT_.out (by kernel_rfl)) (by decide) (fun K hK => ?_)
                          refine goes_ Try.func102 (by kernel_rfl) rfl #[.agg #[.int .i64 ((rd_T74 l0 x7_1).f0), .slice A296_1 ((rd_T74 l0 x7_1).f1).length c296_1], .agg #[.int .i64 ((rd_T74 l1 x8_2).f0), .slice A297_1 ((rd_T74 l1 x8_2).f1).length c297_1]] (by rfl) rfl rfl (by (try simp only [List.map_toArray, List.map_cons, List.map_nil]); first | done | rfl | (simp only [List.length_drop, List.length_take]; rfl)) ?_
                          with_reducible refine (tenetref24_times.calls k2 ((rd_T74 l0 x7_1).f0) _ _ ((rd_T74 l0 x7_1).f1) ((rd_T74 l1 x8_2).f0) _ _ ((rd_T74 l1 x8_2).f1) t298 t299 false _ ?side1 ?side2 ?side3 ?side4 A8.out).mono ?_
                          (case side1 => repeat (first | exact (Kd.C_below HR296_1.out HB.out) | (with_reducible refine Kd.C_alloc ?_ _) | (with_reducible refine Kd.C_drewN ?_ _) | (with_reducible refine Kd.C_drew ?_)))
                          (case side2 => exact HC296_1.out)
                          (case side3 => repeat (first | exact (Kd.C_below HR297_1.out HB.out) | (with_reducible refine Kd.C_alloc ?_ _) | (with_reducible refine Kd.C_drewN ?_ _) | (with_reducible refine Kd.C_drew ?_)))
                          (case side4 => exact HC297_1.out)
                          rintro e w36 ⟨v300, rfl, ho0, hb⟩
                          refine ⟨_, rfl, ?_⟩
                          have n0_ := Aside0.mk (Kd.N_elder' (by (with_reducible repeat (first | apply Kd.N_alloc | apply Kd.N_drewN | apply Kd.N_drew)); exact HO_6.out) (Kd.R_base ho0) hb)
                          have n1_ := Aside0.mk (Kd.R_lower (Kd.R_newM (M := fun k_ => (w.heap.size ≤ k_)) ho0 (below_size (by repeat (first | (with_reducible first | exact HB.out | apply below_alloc | apply pw_below_drewN | apply below_drew1 | refine below_set ?_ GE303.out) | exact HB.out))) (fun k_ h_ => h_)) (below_size (by repeat (first | (with_reducible first | exact HB.out | apply below_alloc | apply pw_below_drewN | apply below_drew1 | refine below_set ?_ GE303.out) | exact HB.out))))
                          have n2_ := Aside0.mk (blk_below (g := gb303) (o := .cells #[.int .i64 0, .slice none 0 0] 74 (0, 0)) (by (with_reducible repeat (first | refine blk_drewN ?_ _ | refine blk_drew ?_ | refine blk_alloc ?_ _)); exact BK303.out) hb)
                          have n3_ := Aside0.mk (below_step (by repeat (first | (with_reducible first | exact HB.out | apply below_alloc | apply pw_below_drewN | apply below_drew1 | refine below_set ?_ GE303.out) | exact HB.out)) hb)
                          clear HO_6
                          clear BK303
                          clear HB
                          have HO_6 := n0_
                          have HO301 := n1_
                          have BK303 := n2_
                          have HB := n3_
                          clear n0_ n1_ n2_ n3_
                          (try clear hb)
                          (try clear hb2)
                          (try clear hk)
                          (try clear hi)
                          (try clear ho0)
                          refine hK.out _ _ ⟨((HB.out.cell (World.block_lt_of_cell? w _ hw296_0)).trans hw296_0), ((HB.out.cell (World.block_lt_of_cell? w _ hw296_1)).trans hw296_1), ((HB.out.cell (World.block_lt_of_cell? w _ hw297_0)).trans hw297_0), ((HB.out.cell (World.block_lt_of_cell? w _ hw297_1)).trans hw297_1)⟩ (fun hHeld => ?_)
                          clear hK K
                          refine norm_ (a' := ?_) ?_ ?_
                          rotate_left
                          · show Act.put _ (some 34) _ = _
                            simp only [Act.put, List.setIfInBounds_toArray, List.set_cons_zero, List.set_cons_succ, i64_w, i32_w]
                            rfl
                          refine pure_ (i := 9) (N := some 25) (v := ?_) (a' := ?_) #[true, true, true, true, true, true, true, true, true, true, false, false, true, false, false] rfl rfl (any_of HT_.out (by kernel_rfl)) (fun _ _ _ h => h) (Or.inl ⟨by rfl, ?_⟩) ?_ ?_
                          rotate_left
                          · intro w'
                            go_simp
                            with_reducible rfl
                          rotate_left
                          · simp only [Act.put, List.setIfInBounds_toArray, List.set_cons_zero, List.set_cons_succ, i64_w, i32_w]
                            rfl
                          refine pure_ (i := 10) (N := some 35) (v := ?_) (a' := ?_) #[true, true, true, true, true, true, true, true, true, true, true, false, true, false, false] rfl rfl (any_of HT_.out (by kernel_rfl)) (fun _ _ _ h => h) (Or.inl ⟨by rfl, ?_⟩) ?_ ?_
                          rotate_left
                          · intro w'
                            go_simp
                            with_reducible rfl
                          rotate_left
                          · simp only [Act.put, List.setIfInBounds_toArray, List.set_cons_zero, List.set_cons_succ, i64_w, i32_w]
                            rfl
                          refine pure_ (i := 11) (N := some 36) (v := ?_) (a' := ?_) #[true, true, true, true, true, true, true, true, true, true, true, true, true, false, false] rfl rfl (any_of HT_.out (by kernel_rfl)) (fun _ _ _ h => h) (Or.inl ⟨by rfl, ?_⟩) ?_ ?_
                          rotate_left
                          · intro w'
                            go_simp
                            with_reducible rfl
                          rotate_left
                          · simp only [Act.put, List.setIfInBounds_toArray, List.set_cons_zero, List.set_cons_succ, i64_w, i32_w]
                            rfl
                          exact norm_ (by simp only [putAll, Act.put, List.setIfInBounds_toArray, List.set_cons_zero, List.set_cons_succ]) (hCont (v300, gb303) _ ⟨hHeld, (by (with_reducible repeat (first | apply Kd.R_alloc | apply Kd.R_drewN | apply Kd.R_drew)); exact Kd.R_mono HO301.out (fun _ hk => hk.1)), (by (with_reducible repeat (first | apply Kd.N_alloc | apply Kd.N_drewN | apply Kd.N_drew)); exact Kd.N_mono HO_6.out (fun _ hk => ⟨hk.1.1, ⟨hk.2, hk.1.2⟩⟩)), (by (with_reducible repeat (first | refine blk_drewN ?_ _ | refine blk_drew ?_ | refine blk_alloc ?_ _)); exact BK303.out), GW303.out, GE303.out, (by repeat (first | (with_reducible first | exact HB.out | apply below_alloc | apply pw_below_drewN | apply below_drew1 | refine below_set ?_ GE303.out) | exact HB.out))⟩)
                      rintro ⟨v300, gb303⟩ w37 ⟨hS_, h0_, h1_, h2_, h3_, h4_, h5_⟩
                      have n0_ : Aside0 (Kd.R (Kd.int .i64) 3 w37 w.heap.size (fun k_ => (w.heap.size ≤ k_)) v300 t299) := ⟨h0_⟩
                      have n1_ : Aside0 (Kd.N k74 74 w37 w.heap.size (fun k_ => (w.heap.size ≤ k_) ∧ some k_ ≠ (v300 : Value).ownBlock ∧ k_ ≠ gb303) u6 x6_2) := ⟨h1_⟩
                      have n2_ : Aside0 (w37.heap[gb303]? = some (.cells #[.int .i64 0, .slice none 0 0] 74 (0, 0))) := ⟨h2_⟩
                      have n3_ : Aside0 (w.heap.size ≤ gb303) := ⟨h3_⟩
                      have n4_ : Aside0 (w.heap.size ≤ gb303) := ⟨h4_⟩
                      have n5_ : Aside0 (Below w.heap.size w w37) := ⟨h5_⟩
                      clear HO_6
                      clear HB
                      clear h0_ h1_ h2_ h3_ h4_ h5_
                      have HO301 := n0_
                      have HO_6 := n1_
                      have BK303 := n2_
                      have GW303 := n3_
                      have GE303 := n4_
                      have HB := n5_
                      clear n0_ n1_ n2_ n3_ n4_ n5_
                      have hHeld : w37.cell? (ad296.add ((x7_1).toNat * 2)) = some (.int .i64 ((rd_T74 l0 x7_1).f0)) ∧ w37.cell? ⟨(ad296.add ((x7_1).toNat * 2)).block, (ad296.add ((x7_1).toNat * 2)).off + 1, none⟩ = some (.slice A296_1 ((rd_T74 l0 x7_1).f1).length c296_1) ∧ w37.cell? (ad297.add ((x8_2).toNat * 2)) = some (.int .i64 ((rd_T74 l1 x8_2).f0)) ∧ w37.cell? ⟨(ad297.add ((x8_2).toNat * 2)).block, (ad297.add ((x8_2).toNat * 2)).off + 1, none⟩ = some (.slice A297_1 ((rd_T74 l1 x8_2).f1).length c297_1) := hS_
                      obtain ⟨Ao39, co39, eo39⟩ := Kd.R_slice HO301.out
                      (first | subst eo39 | (injection eo39 with f1_ f2_ f3_; have f4_ := f1_.symm; have f5_ := f3_.symm; clear f1_ f2_ f3_; subst f4_; subst f5_))
                      refine norm_ (a' := ?_) ?_ ?_
                      rotate_left
                      · simp only [putAll, Act.put, List.setIfInBounds_toArray, List.set_cons_zero, List.set_cons_succ]
                        rfl
                      refine one_ (i := 13) (N := none) #[true, true, true, true, true, true, true, true, true, true, true, true, true, true, false] rfl rfl (one_of HT_.out (by kernel_rfl)) (by decide) (fun K hK => ?_)
                      have hs38 : w37.cell? ⟨gb303, 0, none⟩ = some (.int .i64 0) := (blk_cell BK303.out 0).trans rfl
                      have hfs38 := blk_frozen BK303.out 0
                      have hs40 : w37.cell? ⟨gb303, 1, none⟩ = some (.slice none 0 0) := (blk_cell BK303.out 1).trans rfl
                      have hfs40 := blk_frozen BK303.out 1
                      refine skip_ (w1 := ?_) (by rfl) rfl ?_ ?_
                      rotate_left
                      · go_simp
                        rfl
                      refine hK.out _ _ ⟨((cell_far (p := ⟨gb303, _, none⟩) (by first | exact Nat.ne_of_lt (Nat.lt_of_lt_of_le (by have := World.block_lt_of_cell? _ _ hw296_0; first | rwa [add_block] at this | exact this) GW303.out) | (rw [add_block]; exact Nat.ne_of_lt (Nat.lt_of_lt_of_le (by have := World.block_lt_of_cell? _ _ hw296_0; first | rwa [add_block] at this | exact this) GW303.out)) | (show (Addr.add _ _).block ≠ _; rw [add_block]; exact Nat.ne_of_lt (Nat.lt_of_lt_of_le (by have := World.block_lt_of_cell? _ _ hw296_0; first | rwa [add_block] at this | exact this) GW303.out)) | (dsimp only; exact Nat.ne_of_lt (Nat.lt_of_lt_of_le (by have := World.block_lt_of_cell? _ _ hw296_0; first | rwa [add_block] at this | exact this) GW303.out))) _).trans (((cell_far (p := ⟨gb303, _, none⟩) (by first | exact Nat.ne_of_lt (Nat.lt_of_lt_of_le (by have := World.block_lt_of_cell? _ _ hw296_0; first | rwa [add_block] at this | exact this) GW303.out) | (rw [add_block]; exact Nat.ne_of_lt (Nat.lt_of_lt_of_le (by have := World.block_lt_of_cell? _ _ hw296_0; first | rwa [add_block] at this | exact this) GW303.out)) | (show (Addr.add _ _).block ≠ _; rw [add_block]; exact Nat.ne_of_lt (Nat.lt_of_lt_of_le (by have := World.block_lt_of_cell? _ _ hw296_0; first | rwa [add_block] at this | exact this) GW303.out)) | (dsimp only; exact Nat.ne_of_lt (Nat.lt_of_lt_of_le (by have := World.block_lt_of_cell? _ _ hw296_0; first | rwa [add_block] at this | exact this) GW303.out))) _).trans (hHeld.1)))), ((cell_far (p := ⟨gb303, _, none⟩) (by first | exact Nat.ne_of_lt (Nat.lt_of_lt_of_le (by have := World.block_lt_of_cell? _ _ hw296_1; first | rwa [add_block] at this | exact this) GW303.out) | (rw [add_block]; exact Nat.ne_of_lt (Nat.lt_of_lt_of_le (by have := World.block_lt_of_cell? _ _ hw296_1; first | rwa [add_block] at this | exact this) GW303.out)) | (show (Addr.add _ _).block ≠ _; rw [add_block]; exact Nat.ne_of_lt (Nat.lt_of_lt_of_le (by have := World.block_lt_of_cell? _ _ hw296_1; first | rwa [add_block] at this | exact this) GW303.out)) | (dsimp only; exact Nat.ne_of_lt (Nat.lt_of_lt_of_le (by have := World.block_lt_of_cell? _ _ hw296_1; first | rwa [add_block] at this | exact this) GW303.out))) _).trans (((cell_far (p := ⟨gb303, _, none⟩) (by first | exact Nat.ne_of_lt (Nat.lt_of_lt_of_le (by have := World.block_lt_of_cell? _ _ hw296_1; first | rwa [add_block] at this | exact this) GW303.out) | (rw [add_block]; exact Nat.ne_of_lt (Nat.lt_of_lt_of_le (by have := World.block_lt_of_cell? _ _ hw296_1; first | rwa [add_block] at this | exact this) GW303.out)) | (show (Addr.add _ _).block ≠ _; rw [add_block]; exact Nat.ne_of_lt (Nat.lt_of_lt_of_le (by have := World.block_lt_of_cell? _ _ hw296_1; first | rwa [add_block] at this | exact this) GW303.out)) | (dsimp only; exact Nat.ne_of_lt (Nat.lt_of_lt_of_le (by have := World.block_lt_of_cell? _ _ hw296_1; first | rwa [add_block] at this | exact this) GW303.out))) _).trans (hHeld.2.1)))), ((cell_far (p := ⟨gb303, _, none⟩) (by first | exact Nat.ne_of_lt (Nat.lt_of_lt_of_le (by have := World.block_lt_of_cell? _ _ hw297_0; first | rwa [add_block] at this | exact this) GW303.out) | (rw [add_block]; exact Nat.ne_of_lt (Nat.lt_of_lt_of_le (by have := World.block_lt_of_cell? _ _ hw297_0; first | rwa [add_block] at this | exact this) GW303.out)) | (show (Addr.add _ _).block ≠ _; rw [add_block]; exact Nat.ne_of_lt (Nat.lt_of_lt_of_le (by have := World.block_lt_of_cell? _ _ hw297_0; first | rwa [add_block] at this | exact this) GW303.out)) | (dsimp only; exact Nat.ne_of_lt (Nat.lt_of_lt_of_le (by have := World.block_lt_of_cell? _ _ hw297_0; first | rwa [add_block] at this | exact this) GW303.out))) _).trans (((cell_far (p := ⟨gb303, _, none⟩) (by first | exact Nat.ne_of_lt (Nat.lt_of_lt_of_le (by have := World.block_lt_of_cell? _ _ hw297_0; first | rwa [add_block] at this | exact this) GW303.out) | (rw [add_block]; exact Nat.ne_of_lt (Nat.lt_of_lt_of_le (by have := World.block_lt_of_cell? _ _ hw297_0; first | rwa [add_block] at this | exact this) GW303.out)) | (show (Addr.add _ _).block ≠ _; rw [add_block]; exact Nat.ne_of_lt (Nat.lt_of_lt_of_le (by have := World.block_lt_of_cell? _ _ hw297_0; first | rwa [add_block] at this | exact this) GW303.out)) | (dsimp only; exact Nat.ne_of_lt (Nat.lt_of_lt_of_le (by have := World.block_lt_of_cell? _ _ hw297_0; first | rwa [add_block] at this | exact this) GW303.out))) _).trans (hHeld.2.2.1)))), ((cell_far (p := ⟨gb303, _, none⟩) (by first | exact Nat.ne_of_lt (Nat.lt_of_lt_of_le (by have := World.block_lt_of_cell? _ _ hw297_1; first | rwa [add_block] at this | exact this) GW303.out) | (rw [add_block]; exact Nat.ne_of_lt (Nat.lt_of_lt_of_le (by have := World.block_lt_of_cell? _ _ hw297_1; first | rwa [add_block] at this | exact this) GW303.out)) | (show (Addr.add _ _).block ≠ _; rw [add_block]; exact Nat.ne_of_lt (Nat.lt_of_lt_of_le (by have := World.block_lt_of_cell? _ _ hw297_1; first | rwa [add_block] at this | exact this) GW303.out)) | (dsimp only; exact Nat.ne_of_lt (Nat.lt_of_lt_of_le (by have := World.block_lt_of_cell? _ _ hw297_1; first | rwa [add_block] at this | exact this) GW303.out))) _).trans (((cell_far (p := ⟨gb303, _, none⟩) (by first | exact Nat.ne_of_lt (Nat.lt_of_lt_of_le (by have := World.block_lt_of_cell? _ _ hw297_1; first | rwa [add_block] at this | exact this) GW303.out) | (rw [add_block]; exact Nat.ne_of_lt (Nat.lt_of_lt_of_le (by have := World.block_lt_of_cell? _ _ hw297_1; first | rwa [add_block] at this | exact this) GW303.out)) | (show (Addr.add _ _).block ≠ _; rw [add_block]; exact Nat.ne_of_lt (Nat.lt_of_lt_of_le (by have := World.block_lt_of_cell? _ _ hw297_1; first | rwa [add_block] at this | exact this) GW303.out)) | (dsimp only; exact Nat.ne_of_lt (Nat.lt_of_lt_of_le (by have := World.block_lt_of_cell? _ _ hw297_1; first | rwa [add_block] at this | exact this) GW303.out))) _).trans (hHeld.2.2.2))))⟩ (fun hHeld => ?_)
                      clear hK K
                      refine pure_ (i := 14) (N := some 10) (v := ?_) (a' := ?_) #[true, true, true, true, true, true, true, true, true, true, true, true, true, true, true] rfl rfl (any_of HT_.out (by kernel_rfl)) (fun _ _ _ h => h) (Or.inl ⟨by rfl, ?_⟩) ?_ ?_
                      rotate_left
                      · intro w'
                        go_simp
                        with_reducible rfl
                      rotate_left
                      · simp only [Act.put, List.setIfInBounds_toArray, List.set_cons_zero, List.set_cons_succ, i64_w, i32_w]
                        rfl
                      refine done_ (done_of HT_.out (by kernel_rfl)) ?_
                      try go_wp2
                      go_ret2
                      exact ⟨_, by first | rfl | (simp [errW_none, errW_some] <;> rfl) | (simp [*, errW_none, errW_some] <;> rfl), by first | exact Kd.S_nil _ _ _ _ _ | exact Kd.N_nil _ _ _ _ _ | exact Kd.V_nil _ _ _ _ _ | exact Kd.Q_nil _ _ _ _ _ | exact Kd.R_nil _ _ _ _ _, by repeat (first | (with_reducible first | exact HB.out | apply below_alloc | apply pw_below_drewN | apply below_drew1 | refine below_set ?_ GE303.out) | exact HB.out)⟩
                  · rw [if_neg c7] at H
                    exact absurd H (by simp)
                · rw [if_neg c6] at H
                  exact absurd H (by simp)
              · rw [if_neg c5] at H
                exact absurd H (by simp)
            · rw [if_neg c4] at H
              have c4b0 : decide (x8_2 < (l1.length : Int)) = false := decide_eq_false c4
              clear c4
              have H' := Aside0.mk H
              clear H
              go_wp2
              go_roundg k2
              case measure => have := HK1.out; have := HK2.out; omega
              case rel => exact ⟨(x6_2), (wrap64 (x7_1 + 1)), (by first | rfl | (simp; done) | (simp [*]; done)), H', ⟨by have := HK1.out; have := HK2.out; omega⟩, ⟨by (with_reducible repeat (first | apply Kd.N_alloc | apply Kd.N_drewN | apply Kd.N_drew)); exact HO_6.out⟩, ⟨by repeat (first | (with_reducible first | exact HB.out | apply below_alloc | apply pw_below_drewN | apply below_drew1) | exact HB.out)⟩⟩
      · rw [if_neg c3] at H
        have c3b0 : decide (x7_1 < (l0.length : Int)) = false := decide_eq_false c3
        clear c3
        simp only [Option.some.injEq, Prod.mk.injEq] at H
        obtain ⟨rfl, rfl⟩ := H
        obtain ⟨Ao41, co41, eo41⟩ := Kd.N_slice HO_6.out
        subst eo41
        go_wp2
        go_ret2
        exact ⟨_, by first | rfl | (simp [errW_none, errW_some] <;> rfl) | (simp [*, errW_none, errW_some] <;> rfl), by (with_reducible repeat (first | apply Kd.N_alloc | apply Kd.N_drewN | apply Kd.N_drew)); exact HO_6.out, by repeat (first | (with_reducible first | exact HB.out | apply below_alloc | apply pw_below_drewN | apply below_drew1) | exact HB.out)⟩

end Go.Proofs.Ytlidibbdacohaaa.PRingEquals
