/- A part of this claim's proof: texts of its author, and printed ones, packed by a program of its author's. -/
import Derived.Test.YtegejpcglabhbaaCe2
namespace Go.Proofs.Ytegejpcglabhbaa.G
open Go.RowKit Go.Proofs.YtegejpcglabhbaaW.PrintWords Go.Proofs.YtegejpcglabhbaaW.PrintLast Go.Proofs.YtegejpcglabhbaaW.PrintMore
attribute [local go_sem] max2_int min2_int max_two min_two max_three min_three max_four min_four
set_option linter.unusedVariables false
set_option linter.unusedSimpArgs false
mutual
def graph_loops.l0 : Nat → List (S105) → Int → Int → Int → Option ((List (S105)))
 | 0, _, _, _, _ => none
 | k + 1, x0, x1, x10, x11 => if x11 < x10 then (if 0 ≤ x1 then (if x1 < (x0.length : Int) then (if ((rd_T105 x0 x1).f3) = (-2) then (some ([] : List (S105))) else (graph_loops.l0 k x0 ((rd_T105 x0 x1).f0) x10 (wrap64 (x11 + 1)))) else (none)) else (none)) else (graph_loops.l1 k x0 x1 ([] : List (S105)) x1)
def graph_loops.l1 : Nat → List (S105) → Int → List (S105) → Int → Option ((List (S105)))
 | 0, _, _, _, _ => none
 | k + 1, x0, x1, x7, x8 => if 0 ≤ x8 then (if x8 < (x0.length : Int) then (if x7.length < 4398046511104 then ((some (x7 ++ [(⟨(rd_T105 x0 x8).f0, (rd_T105 x0 x8).f1, (rd_T105 x0 x8).f2, (rd_T105 x0 x8).f3⟩ : S105)] : List (S105))).bind fun y141 => (if ((rd_T105 x0 x8).f0) = x1 then (some y141) else (graph_loops.l1 k x0 x1 y141 ((rd_T105 x0 x8).f0)))) else (none)) else (none)) else (none)
end
def graph_loops.f (k : Nat) (l0 : List (S105)) (a1 : Int) (a2 : Int) : Option ((List (S105))) := graph_loops.l0 k l0 a1 (wrap64 (a2 + 1)) 0
theorem graph_loops.mono_l : ∀ k, (∀ y0 y1 y2 y3, LeO (graph_loops.l0 k y0 y1 y2 y3) (graph_loops.l0 (k + 1) y0 y1 y2 y3)) ∧ (∀ y0 y1 y2 y3, LeO (graph_loops.l1 k y0 y1 y2 y3) (graph_loops.l1 (k + 1) y0 y1 y2 y3))
 | 0 => ⟨fun _ _ _ _ r h => by simp [graph_loops.l0] at h, fun _ _ _ _ r h => by simp [graph_loops.l1] at h⟩
 | k + 1 => by
  obtain ⟨ih0, ih1⟩ := graph_loops.mono_l k
  refine ⟨?_, ?_⟩
  ·intro y0 y1 y2 y3
   unfold graph_loops.l0
   repeat' first
   | (with_reducible exact ih0 _ _ _ _)
   | (with_reducible exact ih1 _ _ _ _)
   | (with_reducible exact LeO.refl _)
   | (with_reducible exact LeO.none _)
   | (with_reducible refine LeO.ite ?_ ?_)
   | (with_reducible refine LeO.bind ?_ (fun _ => ?_))
   | exact ih0 _ _ _ _
   | exact ih1 _ _ _ _
   | exact LeO.none _
   | refine LeO.ite ?_ ?_
   | refine LeO.bind ?_ (fun _ => ?_)
  ·intro y0 y1 y2 y3
   unfold graph_loops.l1
   repeat' first
   | (with_reducible exact ih0 _ _ _ _)
   | (with_reducible exact ih1 _ _ _ _)
   | (with_reducible exact LeO.refl _)
   | (with_reducible exact LeO.none _)
   | (with_reducible refine LeO.ite ?_ ?_)
   | (with_reducible refine LeO.bind ?_ (fun _ => ?_))
   | exact ih0 _ _ _ _
   | exact ih1 _ _ _ _
   | exact LeO.none _
   | refine LeO.ite ?_ ?_
   | refine LeO.bind ?_ (fun _ => ?_)
theorem graph_loops.mono : ∀ a0 a1 a2 k, LeO (graph_loops.f k a0 a1 a2) (graph_loops.f (k + 1) a0 a1 a2) := by
 intro a0 a1 a2 k
 obtain ⟨ih0, ih1⟩ := graph_loops.mono_l k
 unfold graph_loops.f
 repeat' first
   | (with_reducible exact ih0 _ _ _ _)
   | (with_reducible exact ih1 _ _ _ _)
   | (with_reducible exact LeO.refl _)
   | (with_reducible exact LeO.none _)
   | (with_reducible refine LeO.ite ?_ ?_)
   | (with_reducible refine LeO.bind ?_ (fun _ => ?_))
   | exact ih0 _ _ _ _
   | exact ih1 _ _ _ _
   | exact LeO.none _
   | refine LeO.ite ?_ ?_
   | refine LeO.bind ?_ (fun _ => ?_)
set_option maxHeartbeats 8000000 in
set_option maxRecDepth 100000 in
theorem loops_any (k : Nat) (A0 : Option Addr) (c0 : Nat) (l0 : List (S105)) (a1 : Int) (a2 : Int) (r : List (S105)) (w : World) (hr0 : Kd.C k105 w A0 l0.length l0) (hc0 : l0.length ≤ c0) (h : graph_loops.f k l0 a1 a2 = some r) :
  Calls Try.prog 92 #[.slice A0 l0.length c0, .int .i64 a1, .int .i64 a2] w fun e w' => ∃ v0_ : Value, e = .returned (v0_) ∧ Kd.R k105 105 w' w.heap.size (fun _ => True) v0_ r ∧ Below w.heap.size w w' ∧ (r = [] → v0_ = .slice none 0 0) := by
 have hu105 := Try.underlying105
 have HR0 := Aside0.mk hr0
 have HC0 := Aside0.mk hc0
 clear hr0 hc0
 have HB := Aside0.mk (Below.refl w.heap.size w)
 have H : (graph_loops.l0 k l0 a1 (wrap64 (a2 + 1)) 0) = some r := h
 clear h
 have H' := Aside0.mk H
 clear H
 go_enter Try.func92, Try.ntmps92
 go_wp2
 go_loopg [1, 11] k (fun kq v1 v11 w' => ∃ (x1_1 : Int) (x11_1 : Int), v1 = .int .i64 x1_1 ∧ v11 = .int .i64 x11_1 ∧ Aside0 (graph_loops.l0 kq l0 x1_1 (wrap64 (a2 + 1)) x11_1 = some r) ∧ Aside0 (kq ≤ k) ∧ Aside0 (Below w.heap.size w w'))
 case atStart => exact ⟨(a1), (0), (by first | rfl | (simp; done) | (simp [*]; done)), (by first | rfl | (simp; done) | (simp [*]; done)), H', ⟨Nat.le_refl _⟩, ⟨by repeat (first | (with_reducible first | exact HB.out | apply below_alloc | apply pw_below_drewN | apply below_drew1) | exact HB.out)⟩⟩
 case round =>
  clear H'
  try clear p2
  obtain ⟨x1_1, x11_1, rfl, rfl, HA, HK1, HB⟩ := hrel
  cases gk with
  | zero => exact absurd HA.out (by simp [graph_loops.l0])
  | succ k1 =>
   have H := HA.out
   clear HA
   simp only [graph_loops.l0] at H
   by_cases c4 : x11_1 < (wrap64 (a2 + 1))
   ·rw [if_pos c4] at H
    have c4b0 : decide (x11_1 < (wrap64 (a2 + 1))) = true := decide_eq_true c4
    clear c4
    by_cases c5 : 0 ≤ x1_1
    ·rw [if_pos c5] at H
     have c5b0 : decide (0 ≤ x1_1) = true := decide_eq_true c5
     clear c5
     by_cases c6 : x1_1 < (l0.length : Int)
     ·rw [if_pos c6] at H
      have c6b0 : decide (x1_1 < (l0.length : Int)) = true := decide_eq_true c6
      clear c6
      by_cases c7 : ((rd_T105 l0 x1_1).f3) = (-2)
      ·rw [if_pos c7] at H
       have c7b0 : (((rd_T105 l0 x1_1).f3) == (-2)) = true := beq_iff_eq.mpr c7
       have c7b1 : (((rd_T105 l0 x1_1).f3) != (-2)) = false := bne_eq_false_iff_eq.mpr c7
       clear c7
       obtain rfl := Option.some.inj H
       have p138 : 0 ≤ (x1_1 : Int) := of_decide_eq_true (by first | (with_reducible assumption) | assumption)
       have q138 : x1_1 < (l0.length : Int) := of_decide_eq_true (by first | (with_reducible assumption) | assumption)
       obtain ⟨ad138, e138, hx138_0, hx138_1, hx138_2, hx138_3⟩ := at_T105 HR0.out x1_1 p138 q138
       cases e138
       replace hx138_0 := (HB.out.cell (World.block_lt_of_cell? w _ hx138_0)).trans hx138_0
       replace hx138_1 := (HB.out.cell (World.block_lt_of_cell? w _ hx138_1)).trans hx138_1
       replace hx138_2 := (HB.out.cell (World.block_lt_of_cell? w _ hx138_2)).trans hx138_2
       replace hx138_3 := (HB.out.cell (World.block_lt_of_cell? w _ hx138_3)).trans hx138_3
       replace p138 := eq_true p138
       replace q138 := eq_true q138
       go_wp2
       go_ret
       exact ⟨_, by first | rfl | (simp [errW_none, errW_some] <;> rfl) | (simp [*, errW_none, errW_some] <;> rfl), by first | exact Kd.R_nil _ _ _ _ _ | exact Kd.N_nil _ _ _ _ _ | exact Kd.V_nil _ _ _ _ _ | exact Kd.Q_nil _ _ _ _ _ | exact Kd.S_nil _ _ _ _ _, by repeat (first | (with_reducible first | exact HB.out | apply below_alloc | apply pw_below_drewN | apply below_drew1) | exact HB.out), by first | rfl | exact fun _ => rfl⟩
      ·rw [if_neg c7] at H
       have c7b0 : (((rd_T105 l0 x1_1).f3) == (-2)) = false := beq_eq_false_iff_ne.mpr c7
       have c7b1 : (((rd_T105 l0 x1_1).f3) != (-2)) = true := bne_iff_ne.mpr c7
       have H' := Aside0.mk H
       clear H
       have p138 : 0 ≤ (x1_1 : Int) := of_decide_eq_true (by first | (with_reducible assumption) | assumption)
       have q138 : x1_1 < (l0.length : Int) := of_decide_eq_true (by first | (with_reducible assumption) | assumption)
       obtain ⟨ad138, e138, hx138_0, hx138_1, hx138_2, hx138_3⟩ := at_T105 HR0.out x1_1 p138 q138
       cases e138
       replace hx138_0 := (HB.out.cell (World.block_lt_of_cell? w _ hx138_0)).trans hx138_0
       replace hx138_1 := (HB.out.cell (World.block_lt_of_cell? w _ hx138_1)).trans hx138_1
       replace hx138_2 := (HB.out.cell (World.block_lt_of_cell? w _ hx138_2)).trans hx138_2
       replace hx138_3 := (HB.out.cell (World.block_lt_of_cell? w _ hx138_3)).trans hx138_3
       replace p138 := eq_true p138
       replace q138 := eq_true q138
       have p139 : 0 ≤ (x1_1 : Int) := of_decide_eq_true (by first | (with_reducible assumption) | assumption)
       have q139 : x1_1 < (l0.length : Int) := of_decide_eq_true (by first | (with_reducible assumption) | assumption)
       obtain ⟨ad139, e139, hx139_0, hx139_1, hx139_2, hx139_3⟩ := at_T105 HR0.out x1_1 p139 q139
       obtain rfl : ad138 = ad139 := (by injection e139)
       replace hx139_0 := (HB.out.cell (World.block_lt_of_cell? w _ hx139_0)).trans hx139_0
       replace hx139_1 := (HB.out.cell (World.block_lt_of_cell? w _ hx139_1)).trans hx139_1
       replace hx139_2 := (HB.out.cell (World.block_lt_of_cell? w _ hx139_2)).trans hx139_2
       replace hx139_3 := (HB.out.cell (World.block_lt_of_cell? w _ hx139_3)).trans hx139_3
       replace p139 := eq_true p139
       replace q139 := eq_true q139
       go_wp2
       go_roundg k1
       case measure => have := HK1.out; omega
       case rel => exact ⟨((rd_T105 l0 x1_1).f0), (wrap64 (x11_1 + 1)), (by first | rfl | (simp; done) | (simp [*]; done)), (by first | rfl | (simp; done) | (simp [*]; done)), H', ⟨by have := HK1.out; omega⟩, ⟨by repeat (first | (with_reducible first | exact HB.out | apply below_alloc | apply pw_below_drewN | apply below_drew1) | exact HB.out)⟩⟩
     ·rw [if_neg c6] at H
      exact absurd H (by simp)
    ·rw [if_neg c5] at H
     exact absurd H (by simp)
   ·rw [if_neg c4] at H
    have c4b0 : decide (x11_1 < (wrap64 (a2 + 1))) = false := decide_eq_false c4
    clear c4
    have H' := Aside0.mk H
    clear H
    go_wp2
    go_loopg [7, 8] k1 (fun kq v7 v8 w' => ∃ (x7_2 : List (S105)) (x8_2 : Int), v8 = .int .i64 x8_2 ∧ Aside0 (graph_loops.l1 kq l0 x1_1 x7_2 x8_2 = some r) ∧ Aside0 (kq ≤ k1) ∧ Aside0 (Kd.R k105 105 w' w.heap.size (fun _ => True) v7 x7_2) ∧ Aside0 (Below w.heap.size w w'))
    case atStart => exact ⟨(([] : List (S105))), (x1_1), (by first | rfl | (simp; done) | (simp [*]; done)), H', ⟨Nat.le_refl _⟩, ⟨by first | exact Kd.R_nil _ _ _ _ _ | exact Kd.N_nil _ _ _ _ _ | exact Kd.V_nil _ _ _ _ _ | exact Kd.Q_nil _ _ _ _ _ | exact Kd.S_nil _ _ _ _ _⟩, ⟨by repeat (first | (with_reducible first | exact HB.out | apply below_alloc | apply pw_below_drewN | apply below_drew1) | exact HB.out)⟩⟩
    case round =>
     clear H'
     try clear p1
     try clear q1
     try clear hx1
     try clear p2
     try clear c4
     try clear c4b0
     try clear c5
     try clear c5b0
     try clear c6
     try clear c6b0
     try clear p6
     try clear c7
     try clear c7b0
     try clear c7b1
     try clear hx138_0
     try clear hx138_1
     try clear hx138_2
     try clear hx138_3
     try clear hx139_0
     try clear hx139_1
     try clear hx139_2
     try clear hx139_3
     try clear p138
     try clear p139
     try clear p2
     try clear q138
     try clear q139
     obtain ⟨x7_2, x8_2, rfl, HA, HK2, HO_7, HB⟩ := hrel
     cases gk with
     | zero => exact absurd HA.out (by simp [graph_loops.l1])
     | succ k2 =>
      have H := HA.out
      clear HA
      simp only [graph_loops.l1] at H
      by_cases c8 : 0 ≤ x8_2
      ·rw [if_pos c8] at H
       have c8b0 : decide (0 ≤ x8_2) = true := decide_eq_true c8
       clear c8
       by_cases c9 : x8_2 < (l0.length : Int)
       ·rw [if_pos c9] at H
        have c9b0 : decide (x8_2 < (l0.length : Int)) = true := decide_eq_true c9
        clear c9
        by_cases c10 : x7_2.length < 4398046511104
        ·rw [if_pos c10] at H
         have LMc10 := Aside0.mk c10
         clear c10
         obtain ⟨y141, hy141⟩ : ∃ y_ : List (S105), y_ = (x7_2 ++ [(⟨(rd_T105 l0 x8_2).f0, (rd_T105 l0 x8_2).f1, (rd_T105 l0 x8_2).f2, (rd_T105 l0 x8_2).f3⟩ : S105)]) := ⟨_, rfl⟩
         replace H : (if ((rd_T105 l0 x8_2).f0) = x1_1 then (some y141) else (graph_loops.l1 k2 l0 x1_1 y141 ((rd_T105 l0 x8_2).f0))) = some r := by first | (rw [hy141]; with_reducible exact H) | (have H2_ := (Option.bind_some _ _).symm.trans H; rw [hy141]; with_reducible exact H2_) | (have H2_ := (Option.bind_some _ _).symm.trans H; with_reducible exact H2_) | with_reducible exact H | (rw [hy141]; exact H) | exact H
         have Ny141 := Aside0.mk hy141
         clear hy141
         by_cases c11 : ((rd_T105 l0 x8_2).f0) = x1_1
         ·rw [if_pos c11] at H
          have c11b0 : (((rd_T105 l0 x8_2).f0) == x1_1) = true := beq_iff_eq.mpr c11
          have c11b1 : (((rd_T105 l0 x8_2).f0) != x1_1) = false := bne_eq_false_iff_eq.mpr c11
          clear c11
          obtain rfl := Option.some.inj H
          have p140 : 0 ≤ (x8_2 : Int) := of_decide_eq_true (by first | (with_reducible assumption) | assumption)
          have q140 : x8_2 < (l0.length : Int) := of_decide_eq_true (by first | (with_reducible assumption) | assumption)
          obtain ⟨ad140, e140, hx140_0, hx140_1, hx140_2, hx140_3⟩ := at_T105 HR0.out x8_2 p140 q140
          cases e140
          replace hx140_0 := (HB.out.cell (World.block_lt_of_cell? w _ hx140_0)).trans hx140_0
          replace hx140_1 := (HB.out.cell (World.block_lt_of_cell? w _ hx140_1)).trans hx140_1
          replace hx140_2 := (HB.out.cell (World.block_lt_of_cell? w _ hx140_2)).trans hx140_2
          replace hx140_3 := (HB.out.cell (World.block_lt_of_cell? w _ hx140_3)).trans hx140_3
          replace p140 := eq_true p140
          replace q140 := eq_true q140
          go_wp2_with (first | ((with_reducible refine gate_builtin (b := .append) (xs := #[.tmp 26, .tmp 31]) rfl ?_); at_builtin; refine Kd.R_append k105 (w0 := w) w.heap.size rfl (.tmp 26) (.tmp 31) 82 105 (.agg #[(.int .i64 0), (.int .i64 0), (.int .i64 0), (.int .i64 0)]) 32 rfl Try.underlying82 info105 rfl (by decide) (by omega) u7 x7_2 (⟨(rd_T105 l0 x8_2).f0, (rd_T105 l0 x8_2).f1, (rd_T105 l0 x8_2).f2, (rd_T105 l0 x8_2).f3⟩ : S105) [.int .i64 ((rd_T105 l0 x8_2).f0), .int .i64 ((rd_T105 l0 x8_2).f1), .int .i64 ((rd_T105 l0 x8_2).f2), .int .i64 ((rd_T105 l0 x8_2).f3)] (fun _ => True) (fun _ => False) rfl rfl ?aP (fun _ hk => hk.elim) ?aF ?aO ?aB ?aS ?aL ?_; (case aP => exact k105_mkM _ _ _ (⟨(rd_T105 l0 x8_2).f0, (rd_T105 l0 x8_2).f1, (rd_T105 l0 x8_2).f2, (rd_T105 l0 x8_2).f3⟩ : S105)); (case aB => exact (by repeat (first | (with_reducible first | exact HB.out | apply below_alloc | apply pw_below_drewN | apply below_drew1) | exact HB.out))); (case aF => exact (fun _ _ => trivial)); (case aO => exact (by (with_reducible repeat (first | apply Kd.R_alloc | apply Kd.R_drewN | apply Kd.R_drew)); exact HO_7.out)); (case aS => exact (below_size (by repeat (first | (with_reducible first | exact HB.out | apply below_alloc | apply pw_below_drewN | apply below_drew1) | exact HB.out)))); (case aL => have := LMc10.out; omega); intro v142 w12 ho hb hg hat; rw [← Ny141.out] at ho; have n0_ := Aside0.mk (hb); have n1_ := Aside0.mk (ho); clear HB; clear HO_7; have HB := n0_; have HO143 := n1_; clear n0_ n1_; clear ho hb hg hat; have p144 : 0 ≤ (x8_2 : Int) := of_decide_eq_true (by first | (with_reducible assumption) | assumption); have q144 : x8_2 < (l0.length : Int) := of_decide_eq_true (by first | (with_reducible assumption) | assumption); obtain ⟨ad144, e144, hx144_0, hx144_1, hx144_2, hx144_3⟩ := at_T105 HR0.out x8_2 p144 q144; obtain rfl : ad140 = ad144 := (by injection e144); replace hx144_0 := (HB.out.cell (World.block_lt_of_cell? w _ hx144_0)).trans hx144_0; replace hx144_1 := (HB.out.cell (World.block_lt_of_cell? w _ hx144_1)).trans hx144_1; replace hx144_2 := (HB.out.cell (World.block_lt_of_cell? w _ hx144_2)).trans hx144_2; replace hx144_3 := (HB.out.cell (World.block_lt_of_cell? w _ hx144_3)).trans hx144_3; replace p144 := eq_true p144; replace q144 := eq_true q144))
          go_ret
          exact ⟨_, by first | rfl | (simp [errW_none, errW_some] <;> rfl) | (simp [*, errW_none, errW_some] <;> rfl), by (with_reducible repeat (first | apply Kd.R_alloc | apply Kd.R_drewN | apply Kd.R_drew)); exact HO143.out, by repeat (first | (with_reducible first | exact HB.out | apply below_alloc | apply pw_below_drewN | apply below_drew1) | exact HB.out), fun h_ => absurd h_ (by first | (rw [Ny141.out]; simp) | (have := Ny141.out; simp_all))⟩
         ·rw [if_neg c11] at H
          have c11b0 : (((rd_T105 l0 x8_2).f0) == x1_1) = false := beq_eq_false_iff_ne.mpr c11
          have c11b1 : (((rd_T105 l0 x8_2).f0) != x1_1) = true := bne_iff_ne.mpr c11
          have H' := Aside0.mk H
          clear H
          have p140 : 0 ≤ (x8_2 : Int) := of_decide_eq_true (by first | (with_reducible assumption) | assumption)
          have q140 : x8_2 < (l0.length : Int) := of_decide_eq_true (by first | (with_reducible assumption) | assumption)
          obtain ⟨ad140, e140, hx140_0, hx140_1, hx140_2, hx140_3⟩ := at_T105 HR0.out x8_2 p140 q140
          cases e140
          replace hx140_0 := (HB.out.cell (World.block_lt_of_cell? w _ hx140_0)).trans hx140_0
          replace hx140_1 := (HB.out.cell (World.block_lt_of_cell? w _ hx140_1)).trans hx140_1
          replace hx140_2 := (HB.out.cell (World.block_lt_of_cell? w _ hx140_2)).trans hx140_2
          replace hx140_3 := (HB.out.cell (World.block_lt_of_cell? w _ hx140_3)).trans hx140_3
          replace p140 := eq_true p140
          replace q140 := eq_true q140
          go_wp2_with (first | ((with_reducible refine gate_builtin (b := .append) (xs := #[.tmp 26, .tmp 31]) rfl ?_); at_builtin; refine Kd.R_append k105 (w0 := w) w.heap.size rfl (.tmp 26) (.tmp 31) 82 105 (.agg #[(.int .i64 0), (.int .i64 0), (.int .i64 0), (.int .i64 0)]) 32 rfl Try.underlying82 info105 rfl (by decide) (by omega) u7 x7_2 (⟨(rd_T105 l0 x8_2).f0, (rd_T105 l0 x8_2).f1, (rd_T105 l0 x8_2).f2, (rd_T105 l0 x8_2).f3⟩ : S105) [.int .i64 ((rd_T105 l0 x8_2).f0), .int .i64 ((rd_T105 l0 x8_2).f1), .int .i64 ((rd_T105 l0 x8_2).f2), .int .i64 ((rd_T105 l0 x8_2).f3)] (fun _ => True) (fun _ => False) rfl rfl ?aP (fun _ hk => hk.elim) ?aF ?aO ?aB ?aS ?aL ?_; (case aP => exact k105_mkM _ _ _ (⟨(rd_T105 l0 x8_2).f0, (rd_T105 l0 x8_2).f1, (rd_T105 l0 x8_2).f2, (rd_T105 l0 x8_2).f3⟩ : S105)); (case aB => exact (by repeat (first | (with_reducible first | exact HB.out | apply below_alloc | apply pw_below_drewN | apply below_drew1) | exact HB.out))); (case aF => exact (fun _ _ => trivial)); (case aO => exact (by (with_reducible repeat (first | apply Kd.R_alloc | apply Kd.R_drewN | apply Kd.R_drew)); exact HO_7.out)); (case aS => exact (below_size (by repeat (first | (with_reducible first | exact HB.out | apply below_alloc | apply pw_below_drewN | apply below_drew1) | exact HB.out)))); (case aL => have := LMc10.out; omega); intro v142 w13 ho hb hg hat; rw [← Ny141.out] at ho; have n0_ := Aside0.mk (hb); have n1_ := Aside0.mk (ho); clear HB; clear HO_7; have HB := n0_; have HO143 := n1_; clear n0_ n1_; clear ho hb hg hat; have p144 : 0 ≤ (x8_2 : Int) := of_decide_eq_true (by first | (with_reducible assumption) | assumption); have q144 : x8_2 < (l0.length : Int) := of_decide_eq_true (by first | (with_reducible assumption) | assumption); obtain ⟨ad144, e144, hx144_0, hx144_1, hx144_2, hx144_3⟩ := at_T105 HR0.out x8_2 p144 q144; obtain rfl : ad140 = ad144 := (by injection e144); replace hx144_0 := (HB.out.cell (World.block_lt_of_cell? w _ hx144_0)).trans hx144_0; replace hx144_1 := (HB.out.cell (World.block_lt_of_cell? w _ hx144_1)).trans hx144_1; replace hx144_2 := (HB.out.cell (World.block_lt_of_cell? w _ hx144_2)).trans hx144_2; replace hx144_3 := (HB.out.cell (World.block_lt_of_cell? w _ hx144_3)).trans hx144_3; replace p144 := eq_true p144; replace q144 := eq_true q144))
          go_roundg k2
          case measure => have := HK1.out; have := HK2.out; omega
          case rel => exact ⟨(y141), ((rd_T105 l0 x8_2).f0), (by first | rfl | (simp; done) | (simp [*]; done)), H', ⟨by have := HK1.out; have := HK2.out; omega⟩, ⟨by (with_reducible repeat (first | apply Kd.R_alloc | apply Kd.R_drewN | apply Kd.R_drew)); exact HO143.out⟩, ⟨by repeat (first | (with_reducible first | exact HB.out | apply below_alloc | apply pw_below_drewN | apply below_drew1) | exact HB.out)⟩⟩
        ·rw [if_neg c10] at H
         exact absurd H (by simp)
       ·rw [if_neg c9] at H
        exact absurd H (by simp)
      ·rw [if_neg c8] at H
       exact absurd H (by simp)
end Go.Proofs.Ytegejpcglabhbaa.G
