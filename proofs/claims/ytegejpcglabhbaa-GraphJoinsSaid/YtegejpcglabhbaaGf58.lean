-- Made by a program of this claim's author out of the translation (a patched run of the kit's print).
import Derived.Test.YtegejpcglabhbaaG0
namespace Go.Proofs.Ytegejpcglabhbaa.G
open Go.RowKit Go.Proofs.YtegejpcglabhbaaW.PrintWords Go.Proofs.YtegejpcglabhbaaW.PrintLast Go.Proofs.YtegejpcglabhbaaW.PrintMore
attribute [local go_sem] max2_int min2_int max_two min_two max_three min_three max_four min_four   -- for this text's walks alone
set_option linter.unusedVariables false
set_option linter.unusedSimpArgs false

/-! ### graph_side: function 58 -/
def graph_side.l0 : Nat → List Int → Int → List (S96) → Int → Int → Option (Int)
  | 0, _, _, _, _, _ => none
  | k + 1, x1, x5, x11, x12, x13 => if x13 < x12 then (if 0 ≤ x13 then (if x13 < (x11.length : Int) then (if 0 ≤ ((rd_T96 x11 x13).f0) then (if ((rd_T96 x11 x13).f0) < (x1.length : Int) then (graph_side.l0 k x1 (mx x5 (wrap64 ((rd x1 ((rd_T96 x11 x13).f0)) + ((rd_T96 x11 x13).f1)))) x11 x12 (wrap64 (x13 + 1))) else (none)) else (none)) else (none)) else (none)) else (some x5)
def graph_side.f (k : Nat) (a0_0 : Int) (l0_1 : List (S96)) (l1 : List Int) : Option (Int) := graph_side.l0 k l1 a0_0 l0_1 (l0_1.length : Int) 0
theorem graph_side.mono_l : ∀ k, (∀ y0 y1 y2 y3 y4, LeO (graph_side.l0 k y0 y1 y2 y3 y4) (graph_side.l0 (k + 1) y0 y1 y2 y3 y4))
  | 0 => fun _ _ _ _ _ r h => by simp [graph_side.l0] at h
  | k + 1 => by
    have ih0 := graph_side.mono_l k
    · intro y0 y1 y2 y3 y4
      unfold graph_side.l0
      repeat' first
      | (with_reducible exact ih0 _ _ _ _ _)
      | (with_reducible exact LeO.refl _)
      | (with_reducible exact LeO.none _)
      | (with_reducible refine LeO.ite ?_ ?_)
      | (with_reducible refine LeO.bind ?_ (fun _ => ?_))
      | exact ih0 _ _ _ _ _
      | exact LeO.none _
      | refine LeO.ite ?_ ?_
      | refine LeO.bind ?_ (fun _ => ?_)
theorem graph_side.mono : ∀ a0 a1 a2 k, LeO (graph_side.f k a0 a1 a2) (graph_side.f (k + 1) a0 a1 a2) := by
  intro a0 a1 a2 k
  have ih0 := graph_side.mono_l k
  unfold graph_side.f
  repeat' first
      | (with_reducible exact ih0 _ _ _ _ _)
      | (with_reducible exact LeO.refl _)
      | (with_reducible exact LeO.none _)
      | (with_reducible refine LeO.ite ?_ ?_)
      | (with_reducible refine LeO.bind ?_ (fun _ => ?_))
      | exact ih0 _ _ _ _ _
      | exact LeO.none _
      | refine LeO.ite ?_ ?_
      | refine LeO.bind ?_ (fun _ => ?_)
set_option maxHeartbeats 8000000 in
set_option maxRecDepth 100000 in
theorem graph_side.calls (k : Nat) (a0_0 : Int) (A0_1 : Option Addr) (c0_1 : Nat) (l0_1 : List (S96)) (A1 : Option Addr) (c1 : Nat) (l1 : List Int) (r : Int) (w : World) (hr0_1 : Kd.C k96 w A0_1 l0_1.length l0_1) (hc0_1 : l0_1.length ≤ c0_1) (hr1 : Kd.C (Kd.int .i64) w A1 l1.length l1) (hc1 : l1.length ≤ c1) (h : graph_side.f k a0_0 l0_1 l1 = some r) :
    Calls Try.prog 58 #[.agg #[.int .i64 a0_0, .slice A0_1 l0_1.length c0_1], .slice A1 l1.length c1] w fun e w' => e = .returned (.int .i64 r) ∧ Below w.heap.size w w' := by
  have hu41 := Try.underlying41
  have hu96 := Try.underlying96
  have HR0_1 := Aside0.mk hr0_1
  have HC0_1 := Aside0.mk hc0_1
  clear hr0_1 hc0_1
  have HR1 := Aside0.mk hr1
  have HC1 := Aside0.mk hc1
  clear hr1 hc1
  have HB := Aside0.mk (Below.refl w.heap.size w)
  have H : (graph_side.l0 k l1 a0_0 l0_1 (l0_1.length : Int) 0) = some r := h
  clear h
  have H' := Aside0.mk H
  clear H
  go_enter Try.func58, Try.ntmps58
  go_wp2_with (first | ((with_reducible refine gate_dst (N := 2) rfl ?_); refine box_event ?hg (N := 2) ?hd (cs := #[.int .i64 a0_0, .slice A0_1 l0_1.length c0_1]) (t := 41) ?hr ?_; (case hd => rfl); (case hg => rfl); (case hr => first | (go_simp; done) | (go_simp; rfl)); intro gb627 hg w3 hbox hb; have n0_ := Aside0.mk (below_step (by repeat (first | (with_reducible first | exact HB.out | apply below_alloc | apply pw_below_drewN | apply below_drew1) | exact HB.out)) hb); have n1_ := Aside0.mk (hbox); have n2_ := Aside0.mk ((by rw [hg]; exact (below_size (by repeat (first | (with_reducible first | exact HB.out | apply below_alloc | apply pw_below_drewN | apply below_drew1) | exact HB.out))) : w.heap.size ≤ gb627)); have n3_ := Aside0.mk ((by rw [hg]; exact (below_size (by repeat (first | (with_reducible first | exact HB.out | apply below_alloc | apply pw_below_drewN | apply below_drew1) | exact HB.out))) : w.heap.size ≤ gb627)); clear HB; have HB := n0_; have BK627 := n1_; have GW627 := n2_; have GE627 := n3_; clear n0_ n1_ n2_ n3_; clear hb hbox hg; have hcz4_0 : w3.cell? ⟨gb627, 0, none⟩ = some (.int .i64 a0_0) := (blk_cell BK627.out 0).trans rfl; have hcz4_1 : w3.cell? ⟨gb627, 1, none⟩ = some (.slice A0_1 l0_1.length c0_1) := (blk_cell BK627.out 1).trans rfl; have hfz4_0 := blk_frozen BK627.out 0; have hfz4_1 := blk_frozen BK627.out 1))
  repeat (go_quiet (first | ((with_reducible refine gate_dst (N := 2) rfl ?_); refine box_event ?hg (N := 2) ?hd (cs := #[.int .i64 a0_0, .slice A0_1 l0_1.length c0_1]) (t := 41) ?hr ?_; (case hd => rfl); (case hg => rfl); (case hr => first | (go_simp; done) | (go_simp; rfl)); intro gb627 hg w3 hbox hb; have n0_ := Aside0.mk (below_step (by repeat (first | (with_reducible first | exact HB.out | apply below_alloc | apply pw_below_drewN | apply below_drew1) | exact HB.out)) hb); have n1_ := Aside0.mk (hbox); have n2_ := Aside0.mk ((by rw [hg]; exact (below_size (by repeat (first | (with_reducible first | exact HB.out | apply below_alloc | apply pw_below_drewN | apply below_drew1) | exact HB.out))) : w.heap.size ≤ gb627)); have n3_ := Aside0.mk ((by rw [hg]; exact (below_size (by repeat (first | (with_reducible first | exact HB.out | apply below_alloc | apply pw_below_drewN | apply below_drew1) | exact HB.out))) : w.heap.size ≤ gb627)); clear HB; have HB := n0_; have BK627 := n1_; have GW627 := n2_; have GE627 := n3_; clear n0_ n1_ n2_ n3_; clear hb hbox hg; have hcz4_0 : w3.cell? ⟨gb627, 0, none⟩ = some (.int .i64 a0_0) := (blk_cell BK627.out 0).trans rfl; have hcz4_1 : w3.cell? ⟨gb627, 1, none⟩ = some (.slice A0_1 l0_1.length c0_1) := (blk_cell BK627.out 1).trans rfl; have hfz4_0 := blk_frozen BK627.out 0; have hfz4_1 := blk_frozen BK627.out 1)); try go_wp2_with (first | ((with_reducible refine gate_dst (N := 2) rfl ?_); refine box_event ?hg (N := 2) ?hd (cs := #[.int .i64 a0_0, .slice A0_1 l0_1.length c0_1]) (t := 41) ?hr ?_; (case hd => rfl); (case hg => rfl); (case hr => first | (go_simp; done) | (go_simp; rfl)); intro gb627 hg w3 hbox hb; have n0_ := Aside0.mk (below_step (by repeat (first | (with_reducible first | exact HB.out | apply below_alloc | apply pw_below_drewN | apply below_drew1) | exact HB.out)) hb); have n1_ := Aside0.mk (hbox); have n2_ := Aside0.mk ((by rw [hg]; exact (below_size (by repeat (first | (with_reducible first | exact HB.out | apply below_alloc | apply pw_below_drewN | apply below_drew1) | exact HB.out))) : w.heap.size ≤ gb627)); have n3_ := Aside0.mk ((by rw [hg]; exact (below_size (by repeat (first | (with_reducible first | exact HB.out | apply below_alloc | apply pw_below_drewN | apply below_drew1) | exact HB.out))) : w.heap.size ≤ gb627)); clear HB; have HB := n0_; have BK627 := n1_; have GW627 := n2_; have GE627 := n3_; clear n0_ n1_ n2_ n3_; clear hb hbox hg; have hcz4_0 : w3.cell? ⟨gb627, 0, none⟩ = some (.int .i64 a0_0) := (blk_cell BK627.out 0).trans rfl; have hcz4_1 : w3.cell? ⟨gb627, 1, none⟩ = some (.slice A0_1 l0_1.length c0_1) := (blk_cell BK627.out 1).trans rfl; have hfz4_0 := blk_frozen BK627.out 0; have hfz4_1 := blk_frozen BK627.out 1)))
  go_loopg [5, 13] k (fun kq v5 v13 w' => ∃ (x5_1 : Int) (x13_1 : Int), v5 = .int .i64 x5_1 ∧ v13 = .int .i64 x13_1 ∧ Aside0 (graph_side.l0 kq l1 x5_1 l0_1 (l0_1.length : Int) x13_1 = some r) ∧ Aside0 (kq ≤ k) ∧ Aside0 (w'.heap[gb627]? = some (.cells #[.int .i64 a0_0, (.slice A0_1 l0_1.length c0_1)] 41 (0, 0))) ∧ Aside0 (Below w.heap.size w w'))
  case atStart => exact ⟨(a0_0), (0), (by first | rfl | (simp; done) | (simp [*]; done)), (by first | rfl | (simp; done) | (simp [*]; done)), H', ⟨Nat.le_refl _⟩, ⟨by (with_reducible repeat (first | refine blk_drewN ?_ _ | refine blk_drew ?_ | refine blk_alloc ?_ _)); exact BK627.out⟩, ⟨by repeat (first | (with_reducible first | exact HB.out | apply below_alloc | apply pw_below_drewN | apply below_drew1 | refine below_set ?_ GE627.out) | exact HB.out)⟩⟩
  case round =>
    clear H'
    try clear c1
    try clear p2
    try clear hcz4_0
    try clear hcz4_1
    try clear hfz4_0
    try clear hfz4_1
    obtain ⟨x5_1, x13_1, rfl, rfl, HA, HK1, BK627, HB⟩ := hrel
    cases gk with
    | zero => exact absurd HA.out (by simp [graph_side.l0])
    | succ k1 =>
      have H := HA.out
      clear HA
      simp only [graph_side.l0] at H
      by_cases c5 : x13_1 < (l0_1.length : Int)
      · rw [if_pos c5] at H
        have c5b0 : decide (x13_1 < (l0_1.length : Int)) = true := decide_eq_true c5
        clear c5
        by_cases c6 : 0 ≤ x13_1
        · rw [if_pos c6] at H
          have c6b0 : decide (0 ≤ x13_1) = true := decide_eq_true c6
          clear c6
          by_cases c7 : x13_1 < (l0_1.length : Int)
          · rw [if_pos c7] at H
            have c7b0 : decide (x13_1 < (l0_1.length : Int)) = true := decide_eq_true c7
            clear c7
            by_cases c8 : 0 ≤ ((rd_T96 l0_1 x13_1).f0)
            · rw [if_pos c8] at H
              have c8b0 : decide (0 ≤ ((rd_T96 l0_1 x13_1).f0)) = true := decide_eq_true c8
              clear c8
              by_cases c9 : ((rd_T96 l0_1 x13_1).f0) < (l1.length : Int)
              · rw [if_pos c9] at H
                have c9b0 : decide (((rd_T96 l0_1 x13_1).f0) < (l1.length : Int)) = true := decide_eq_true c9
                clear c9
                obtain ⟨ji10, hji10⟩ : ∃ j_ : Int, (mx x5_1 (wrap64 ((rd l1 ((rd_T96 l0_1 x13_1).f0)) + ((rd_T96 l0_1 x13_1).f1)))) = j_ := ⟨_, rfl⟩
                replace H : (graph_side.l0 k1 l1 ji10 l0_1 (l0_1.length : Int) (wrap64 (x13_1 + 1))) = some r := by first | (rw [hji10] at H; exact H) | (simp only [hji10] at H ⊢; exact H)
                have hji10_ : (if x5_1 < (wrap64 ((rd l1 ((rd_T96 l0_1 x13_1).f0)) + ((rd_T96 l0_1 x13_1).f1))) then (wrap64 ((rd l1 ((rd_T96 l0_1 x13_1).f0)) + ((rd_T96 l0_1 x13_1).f1))) else x5_1) = ji10 := hji10
                have H' := Aside0.mk H
                clear H
                have p628 : 0 ≤ (x13_1 : Int) := of_decide_eq_true (by first | (with_reducible assumption) | assumption)
                have q628 : x13_1 < (l0_1.length : Int) := of_decide_eq_true (by first | (with_reducible assumption) | assumption)
                obtain ⟨ad628, e628, hx628_0, hx628_1⟩ := at_T96 HR0_1.out x13_1 p628 q628
                cases e628
                replace hx628_0 := (HB.out.cell (World.block_lt_of_cell? w _ hx628_0)).trans hx628_0
                replace hx628_1 := (HB.out.cell (World.block_lt_of_cell? w _ hx628_1)).trans hx628_1
                replace p628 := eq_true p628
                replace q628 := eq_true q628
                go_wp2_with (first | ((with_reducible refine gate_dst (N := 7) rfl ?_); refine box_event ?hg (N := 7) ?hd (cs := #[.int .i64 0, .int .i64 0]) (t := 96) ?hr ?_; (case hd => rfl); (case hg => rfl); (case hr => first | (go_simp; done) | (go_simp; rfl)); intro gb629 hg w11 hbox hb; have n0_ := Aside0.mk (blk_below (g := gb627) (o := .cells #[.int .i64 a0_0, .slice (some ad628) l0_1.length c0_1] 41 (0, 0)) (by (with_reducible repeat (first | refine blk_drewN ?_ _ | refine blk_drew ?_ | refine blk_alloc ?_ _)); exact BK627.out) hb); have n1_ := Aside0.mk (below_step (by repeat (first | (with_reducible first | exact HB.out | apply below_alloc | apply pw_below_drewN | apply below_drew1 | refine below_set ?_ GE627.out) | exact HB.out)) hb); have n2_ := Aside0.mk (hbox); have n3_ := Aside0.mk ((by rw [hg]; exact (below_size (by repeat (first | (with_reducible first | exact HB.out | apply below_alloc | apply pw_below_drewN | apply below_drew1 | refine below_set ?_ GE627.out) | exact HB.out))) : w.heap.size ≤ gb629)); have n4_ := Aside0.mk ((by rw [hg]; exact (below_size (by repeat (first | (with_reducible first | exact HB.out | apply below_alloc | apply pw_below_drewN | apply below_drew1 | refine below_set ?_ GE627.out) | exact HB.out))) : w.heap.size ≤ gb629)); have n5_ := Aside0.mk ((by rw [hg]; exact Nat.ne_of_lt (blk_lt (g := gb627) (o := .cells #[.int .i64 a0_0, .slice (some ad628) l0_1.length c0_1] 41 (0, 0)) (by (with_reducible repeat (first | refine blk_drewN ?_ _ | refine blk_drew ?_ | refine blk_alloc ?_ _)); exact BK627.out)) : gb627 ≠ gb629)); have n6_ := Aside0.mk ((by rw [hg]; exact Nat.ne_of_gt (blk_lt (g := gb627) (o := .cells #[.int .i64 a0_0, .slice (some ad628) l0_1.length c0_1] 41 (0, 0)) (by (with_reducible repeat (first | refine blk_drewN ?_ _ | refine blk_drew ?_ | refine blk_alloc ?_ _)); exact BK627.out)) : gb629 ≠ gb627)); clear BK627; clear HB; have BK627 := n0_; have HB := n1_; have BK629 := n2_; have GW629 := n3_; have GE629 := n4_; have NB627_629 := n5_; have NB629_627 := n6_; clear n0_ n1_ n2_ n3_ n4_ n5_ n6_; clear hb hbox hg; have hnb12 := NB629_627.out; have hnc12 := NB627_629.out; have hcz13_0 : w11.cell? ⟨gb629, 0, none⟩ = some (.int .i64 0) := (blk_cell BK629.out 0).trans rfl; have hcz13_1 : w11.cell? ⟨gb629, 1, none⟩ = some (.int .i64 0) := (blk_cell BK629.out 1).trans rfl; have hfz13_0 := blk_frozen BK629.out 0; have hfz13_1 := blk_frozen BK629.out 1; have p630 : 0 ≤ (((rd_T96 l0_1 x13_1).f0) : Int) := of_decide_eq_true (by first | (with_reducible assumption) | assumption); have q630 : ((rd_T96 l0_1 x13_1).f0) < (l1.length : Int) := of_decide_eq_true (by first | (with_reducible assumption) | assumption); obtain ⟨ad630, e630, hx630_0⟩ := Kd.at_int HR1.out ((rd_T96 l0_1 x13_1).f0) p630 q630; cases e630; have hn630_0 : ad630.block ≠ gb629 := Nat.ne_of_lt (Nat.lt_of_lt_of_le (by have := World.block_lt_of_cell? _ _ hx630_0; first | rwa [add_block] at this | exact this) GW629.out); have hn630_1 : ad630.block ≠ gb629 := Nat.ne_of_lt (Nat.lt_of_lt_of_le (by have := World.block_lt_of_cell? _ _ hx630_0; first | rwa [add_block] at this | exact this) GW629.out); replace hx630_0 := (HB.out.cell (World.block_lt_of_cell? w _ hx630_0)).trans hx630_0; replace hx630_0 := (cell_far (p := ⟨gb629, 0, none⟩) (by first | (rw [add_block]; exact hn630_0) | (show (Addr.add _ _).block ≠ _; rw [add_block]; exact hn630_0) | exact hn630_0) (.int .i64 ((rd_T96 l0_1 x13_1).f0))).trans hx630_0; replace hx630_0 := (cell_far (p := ⟨gb629, 1, none⟩) (by first | (rw [add_block]; exact hn630_1) | (show (Addr.add _ _).block ≠ _; rw [add_block]; exact hn630_1) | exact hn630_1) (.int .i64 ((rd_T96 l0_1 x13_1).f1))).trans hx630_0; (try have hy630_0 := fun (n_ : Nat) => (show ((((w11.drewN n_).setCell ⟨gb629, 0, none⟩ (.int .i64 ((rd_T96 l0_1 x13_1).f0))).setCell ⟨gb629, 1, none⟩ (.int .i64 ((rd_T96 l0_1 x13_1).f1)))).cell? _ = some _ from hx630_0)); clear hn630_0; clear hn630_1; replace p630 := eq_true p630; replace q630 := eq_true q630))
                repeat (go_quiet (first | ((with_reducible refine gate_dst (N := 7) rfl ?_); refine box_event ?hg (N := 7) ?hd (cs := #[.int .i64 0, .int .i64 0]) (t := 96) ?hr ?_; (case hd => rfl); (case hg => rfl); (case hr => first | (go_simp; done) | (go_simp; rfl)); intro gb629 hg w11 hbox hb; have n0_ := Aside0.mk (blk_below (g := gb627) (o := .cells #[.int .i64 a0_0, .slice (some ad628) l0_1.length c0_1] 41 (0, 0)) (by (with_reducible repeat (first | refine blk_drewN ?_ _ | refine blk_drew ?_ | refine blk_alloc ?_ _)); exact BK627.out) hb); have n1_ := Aside0.mk (below_step (by repeat (first | (with_reducible first | exact HB.out | apply below_alloc | apply pw_below_drewN | apply below_drew1 | refine below_set ?_ GE627.out) | exact HB.out)) hb); have n2_ := Aside0.mk (hbox); have n3_ := Aside0.mk ((by rw [hg]; exact (below_size (by repeat (first | (with_reducible first | exact HB.out | apply below_alloc | apply pw_below_drewN | apply below_drew1 | refine below_set ?_ GE627.out) | exact HB.out))) : w.heap.size ≤ gb629)); have n4_ := Aside0.mk ((by rw [hg]; exact (below_size (by repeat (first | (with_reducible first | exact HB.out | apply below_alloc | apply pw_below_drewN | apply below_drew1 | refine below_set ?_ GE627.out) | exact HB.out))) : w.heap.size ≤ gb629)); have n5_ := Aside0.mk ((by rw [hg]; exact Nat.ne_of_lt (blk_lt (g := gb627) (o := .cells #[.int .i64 a0_0, .slice (some ad628) l0_1.length c0_1] 41 (0, 0)) (by (with_reducible repeat (first | refine blk_drewN ?_ _ | refine blk_drew ?_ | refine blk_alloc ?_ _)); exact BK627.out)) : gb627 ≠ gb629)); have n6_ := Aside0.mk ((by rw [hg]; exact Nat.ne_of_gt (blk_lt (g := gb627) (o := .cells #[.int .i64 a0_0, .slice (some ad628) l0_1.length c0_1] 41 (0, 0)) (by (with_reducible repeat (first | refine blk_drewN ?_ _ | refine blk_drew ?_ | refine blk_alloc ?_ _)); exact BK627.out)) : gb629 ≠ gb627)); clear BK627; clear HB; have BK627 := n0_; have HB := n1_; have BK629 := n2_; have GW629 := n3_; have GE629 := n4_; have NB627_629 := n5_; have NB629_627 := n6_; clear n0_ n1_ n2_ n3_ n4_ n5_ n6_; clear hb hbox hg; have hnb12 := NB629_627.out; have hnc12 := NB627_629.out; have hcz13_0 : w11.cell? ⟨gb629, 0, none⟩ = some (.int .i64 0) := (blk_cell BK629.out 0).trans rfl; have hcz13_1 : w11.cell? ⟨gb629, 1, none⟩ = some (.int .i64 0) := (blk_cell BK629.out 1).trans rfl; have hfz13_0 := blk_frozen BK629.out 0; have hfz13_1 := blk_frozen BK629.out 1; have p630 : 0 ≤ (((rd_T96 l0_1 x13_1).f0) : Int) := of_decide_eq_true (by first | (with_reducible assumption) | assumption); have q630 : ((rd_T96 l0_1 x13_1).f0) < (l1.length : Int) := of_decide_eq_true (by first | (with_reducible assumption) | assumption); obtain ⟨ad630, e630, hx630_0⟩ := Kd.at_int HR1.out ((rd_T96 l0_1 x13_1).f0) p630 q630; cases e630; have hn630_0 : ad630.block ≠ gb629 := Nat.ne_of_lt (Nat.lt_of_lt_of_le (by have := World.block_lt_of_cell? _ _ hx630_0; first | rwa [add_block] at this | exact this) GW629.out); have hn630_1 : ad630.block ≠ gb629 := Nat.ne_of_lt (Nat.lt_of_lt_of_le (by have := World.block_lt_of_cell? _ _ hx630_0; first | rwa [add_block] at this | exact this) GW629.out); replace hx630_0 := (HB.out.cell (World.block_lt_of_cell? w _ hx630_0)).trans hx630_0; replace hx630_0 := (cell_far (p := ⟨gb629, 0, none⟩) (by first | (rw [add_block]; exact hn630_0) | (show (Addr.add _ _).block ≠ _; rw [add_block]; exact hn630_0) | exact hn630_0) (.int .i64 ((rd_T96 l0_1 x13_1).f0))).trans hx630_0; replace hx630_0 := (cell_far (p := ⟨gb629, 1, none⟩) (by first | (rw [add_block]; exact hn630_1) | (show (Addr.add _ _).block ≠ _; rw [add_block]; exact hn630_1) | exact hn630_1) (.int .i64 ((rd_T96 l0_1 x13_1).f1))).trans hx630_0; (try have hy630_0 := fun (n_ : Nat) => (show ((((w11.drewN n_).setCell ⟨gb629, 0, none⟩ (.int .i64 ((rd_T96 l0_1 x13_1).f0))).setCell ⟨gb629, 1, none⟩ (.int .i64 ((rd_T96 l0_1 x13_1).f1)))).cell? _ = some _ from hx630_0)); clear hn630_0; clear hn630_1; replace p630 := eq_true p630; replace q630 := eq_true q630)); try go_wp2_with (first | ((with_reducible refine gate_dst (N := 7) rfl ?_); refine box_event ?hg (N := 7) ?hd (cs := #[.int .i64 0, .int .i64 0]) (t := 96) ?hr ?_; (case hd => rfl); (case hg => rfl); (case hr => first | (go_simp; done) | (go_simp; rfl)); intro gb629 hg w11 hbox hb; have n0_ := Aside0.mk (blk_below (g := gb627) (o := .cells #[.int .i64 a0_0, .slice (some ad628) l0_1.length c0_1] 41 (0, 0)) (by (with_reducible repeat (first | refine blk_drewN ?_ _ | refine blk_drew ?_ | refine blk_alloc ?_ _)); exact BK627.out) hb); have n1_ := Aside0.mk (below_step (by repeat (first | (with_reducible first | exact HB.out | apply below_alloc | apply pw_below_drewN | apply below_drew1 | refine below_set ?_ GE627.out) | exact HB.out)) hb); have n2_ := Aside0.mk (hbox); have n3_ := Aside0.mk ((by rw [hg]; exact (below_size (by repeat (first | (with_reducible first | exact HB.out | apply below_alloc | apply pw_below_drewN | apply below_drew1 | refine below_set ?_ GE627.out) | exact HB.out))) : w.heap.size ≤ gb629)); have n4_ := Aside0.mk ((by rw [hg]; exact (below_size (by repeat (first | (with_reducible first | exact HB.out | apply below_alloc | apply pw_below_drewN | apply below_drew1 | refine below_set ?_ GE627.out) | exact HB.out))) : w.heap.size ≤ gb629)); have n5_ := Aside0.mk ((by rw [hg]; exact Nat.ne_of_lt (blk_lt (g := gb627) (o := .cells #[.int .i64 a0_0, .slice (some ad628) l0_1.length c0_1] 41 (0, 0)) (by (with_reducible repeat (first | refine blk_drewN ?_ _ | refine blk_drew ?_ | refine blk_alloc ?_ _)); exact BK627.out)) : gb627 ≠ gb629)); have n6_ := Aside0.mk ((by rw [hg]; exact Nat.ne_of_gt (blk_lt (g := gb627) (o := .cells #[.int .i64 a0_0, .slice (some ad628) l0_1.length c0_1] 41 (0, 0)) (by (with_reducible repeat (first | refine blk_drewN ?_ _ | refine blk_drew ?_ | refine blk_alloc ?_ _)); exact BK627.out)) : gb629 ≠ gb627)); clear BK627; clear HB; have BK627 := n0_; have HB := n1_; have BK629 := n2_; have GW629 := n3_; have GE629 := n4_; have NB627_629 := n5_; have NB629_627 := n6_; clear n0_ n1_ n2_ n3_ n4_ n5_ n6_; clear hb hbox hg; have hnb12 := NB629_627.out; have hnc12 := NB627_629.out; have hcz13_0 : w11.cell? ⟨gb629, 0, none⟩ = some (.int .i64 0) := (blk_cell BK629.out 0).trans rfl; have hcz13_1 : w11.cell? ⟨gb629, 1, none⟩ = some (.int .i64 0) := (blk_cell BK629.out 1).trans rfl; have hfz13_0 := blk_frozen BK629.out 0; have hfz13_1 := blk_frozen BK629.out 1; have p630 : 0 ≤ (((rd_T96 l0_1 x13_1).f0) : Int) := of_decide_eq_true (by first | (with_reducible assumption) | assumption); have q630 : ((rd_T96 l0_1 x13_1).f0) < (l1.length : Int) := of_decide_eq_true (by first | (with_reducible assumption) | assumption); obtain ⟨ad630, e630, hx630_0⟩ := Kd.at_int HR1.out ((rd_T96 l0_1 x13_1).f0) p630 q630; cases e630; have hn630_0 : ad630.block ≠ gb629 := Nat.ne_of_lt (Nat.lt_of_lt_of_le (by have := World.block_lt_of_cell? _ _ hx630_0; first | rwa [add_block] at this | exact this) GW629.out); have hn630_1 : ad630.block ≠ gb629 := Nat.ne_of_lt (Nat.lt_of_lt_of_le (by have := World.block_lt_of_cell? _ _ hx630_0; first | rwa [add_block] at this | exact this) GW629.out); replace hx630_0 := (HB.out.cell (World.block_lt_of_cell? w _ hx630_0)).trans hx630_0; replace hx630_0 := (cell_far (p := ⟨gb629, 0, none⟩) (by first | (rw [add_block]; exact hn630_0) | (show (Addr.add _ _).block ≠ _; rw [add_block]; exact hn630_0) | exact hn630_0) (.int .i64 ((rd_T96 l0_1 x13_1).f0))).trans hx630_0; replace hx630_0 := (cell_far (p := ⟨gb629, 1, none⟩) (by first | (rw [add_block]; exact hn630_1) | (show (Addr.add _ _).block ≠ _; rw [add_block]; exact hn630_1) | exact hn630_1) (.int .i64 ((rd_T96 l0_1 x13_1).f1))).trans hx630_0; (try have hy630_0 := fun (n_ : Nat) => (show ((((w11.drewN n_).setCell ⟨gb629, 0, none⟩ (.int .i64 ((rd_T96 l0_1 x13_1).f0))).setCell ⟨gb629, 1, none⟩ (.int .i64 ((rd_T96 l0_1 x13_1).f1)))).cell? _ = some _ from hx630_0)); clear hn630_0; clear hn630_1; replace p630 := eq_true p630; replace q630 := eq_true q630)))
                go_roundg k1
                case measure => have := HK1.out; omega
                case rel => exact ⟨(ji10), (wrap64 (x13_1 + 1)), (by first | rfl | (simp; done) | (simp only [← hji10] <;> (first | rfl | simp)) | (simp [*]; done)), (by first | rfl | (simp; done) | (simp [*]; done)), H', ⟨by have := HK1.out; omega⟩, ⟨by (with_reducible repeat (first | refine blk_drewN ?_ _ | refine blk_drew ?_ | refine blk_alloc ?_ _)); refine blk_far ?_ NB627_629.out _; (with_reducible repeat (first | refine blk_drewN ?_ _ | refine blk_drew ?_ | refine blk_alloc ?_ _)); refine blk_far ?_ NB627_629.out _; (with_reducible repeat (first | refine blk_drewN ?_ _ | refine blk_drew ?_ | refine blk_alloc ?_ _)); exact BK627.out⟩, ⟨by repeat (first | (with_reducible first | exact HB.out | apply below_alloc | apply pw_below_drewN | apply below_drew1 | refine below_set ?_ GE627.out | refine below_set ?_ GE629.out) | exact HB.out)⟩⟩
              · rw [if_neg c9] at H
                exact absurd H (by simp)
            · rw [if_neg c8] at H
              exact absurd H (by simp)
          · rw [if_neg c7] at H
            exact absurd H (by simp)
        · rw [if_neg c6] at H
          exact absurd H (by simp)
      · rw [if_neg c5] at H
        have c5b0 : decide (x13_1 < (l0_1.length : Int)) = false := decide_eq_false c5
        clear c5
        obtain rfl := Option.some.inj H
        go_wp2
        repeat (go_quiet (fail); try go_wp2)
        go_ret
        exact ⟨by first | rfl | (simp [errW_none, errW_some] <;> rfl) | (simp [*, errW_none, errW_some] <;> rfl), by repeat (first | (with_reducible first | exact HB.out | apply below_alloc | apply pw_below_drewN | apply below_drew1 | refine below_set ?_ GE627.out) | exact HB.out)⟩

end Go.Proofs.Ytegejpcglabhbaa.G
