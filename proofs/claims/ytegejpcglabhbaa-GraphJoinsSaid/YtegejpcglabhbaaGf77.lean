-- Made by a program of this claim's author out of the translation (a patched run of the kit's print).
import Derived.Test.YtegejpcglabhbaaG0
namespace Go.Proofs.Ytegejpcglabhbaa.G
open Go.RowKit Go.Proofs.YtegejpcglabhbaaW.PrintWords Go.Proofs.YtegejpcglabhbaaW.PrintLast Go.Proofs.YtegejpcglabhbaaW.PrintMore
attribute [local go_sem] max2_int min2_int max_two min_two max_three min_three max_four min_four   -- for this text's walks alone
set_option linter.unusedVariables false
set_option linter.unusedSimpArgs false

/-! ### tenetref00_CopyLevel: function 77 -/
def tenetref00_CopyLevel.l0 : Nat → Int → Int → List (S96) → Int → List (S96) → Option (Int × (List (S96)))
  | 0, _, _, _, _, _ => none
  | k + 1, x4, x666000, x666001, x668000, x668001 => if x4 < (x666001.length : Int) then (if 0 ≤ x4 then (if x668001.length < 8796093022208 then (tenetref00_CopyLevel.l0 k (wrap64 (x4 + 1)) x666000 x666001 x668000 (x668001 ++ [(⟨(rd_T96 x666001 x4).f0, (rd_T96 x666001 x4).f1⟩ : S96)])) else (none)) else (none)) else (some (x668000, x668001))
def tenetref00_CopyLevel.f (k : Nat) (a0_0 : Int) (l0_1 : List (S96)) : Option (Int × (List (S96))) := tenetref00_CopyLevel.l0 k 0 a0_0 l0_1 a0_0 ([] : List (S96))
theorem tenetref00_CopyLevel.mono_l : ∀ k, (∀ y0 y1 y2 y3 y4, LeO (tenetref00_CopyLevel.l0 k y0 y1 y2 y3 y4) (tenetref00_CopyLevel.l0 (k + 1) y0 y1 y2 y3 y4))
  | 0 => fun _ _ _ _ _ r h => by simp [tenetref00_CopyLevel.l0] at h
  | k + 1 => by
    have ih0 := tenetref00_CopyLevel.mono_l k
    · intro y0 y1 y2 y3 y4
      unfold tenetref00_CopyLevel.l0
      repeat' first
      | (with_reducible exact ih0 _ _ _ _ _)
      | (with_reducible exact LeO.refl _)
      | (with_reducible exact LeO.none _)
      | (with_reducible refine LeO.ite ?_ ?_)
      | (with_reducible refine LeO.bind ?_ (fun _ => ?_))
      | exact ih0 _ _ _ _ _
      | exact LeO.none _
      | refine LeO.ite ?_ ?_
      | refine LeO.bind ?_ (fun _ => ?_)
theorem tenetref00_CopyLevel.mono : ∀ a0 a1 k, LeO (tenetref00_CopyLevel.f k a0 a1) (tenetref00_CopyLevel.f (k + 1) a0 a1) := by
  intro a0 a1 k
  have ih0 := tenetref00_CopyLevel.mono_l k
  unfold tenetref00_CopyLevel.f
  repeat' first
      | (with_reducible exact ih0 _ _ _ _ _)
      | (with_reducible exact LeO.refl _)
      | (with_reducible exact LeO.none _)
      | (with_reducible refine LeO.ite ?_ ?_)
      | (with_reducible refine LeO.bind ?_ (fun _ => ?_))
      | exact ih0 _ _ _ _ _
      | exact LeO.none _
      | refine LeO.ite ?_ ?_
      | refine LeO.bind ?_ (fun _ => ?_)
def tenetref00_CopyLevel.T5 : Bool × List (List Nat × List Nat) := (true, [([], []), ([0], [0]), ([], []), ([2], [2]), ([], []), ([3, 4], [3, 4]), ([5], [5]), ([6], [6]), ([1, 7], [1, 7]), ([0, 1, 2, 3, 4, 5, 6, 7, 8], []), ([9, 8, 8, 0, 1, 2, 3, 4, 5, 6, 7, 8], [8, 9])])
def tenetref00_CopyLevel.B5 : List Nat := [0, 1, 0, 4, 0, 28, 60, 124, 255, 511, 1023]
theorem tenetref00_CopyLevel.tab5 : rtab .any (opsOf Try.f77 5) = tenetref00_CopyLevel.T5 := by kernel_rfl
theorem tenetref00_CopyLevel.bits5 : waitsOk tenetref00_CopyLevel.T5.2 tenetref00_CopyLevel.B5 = true := by kernel_rfl
set_option maxHeartbeats 8000000 in
set_option maxRecDepth 100000 in
theorem tenetref00_CopyLevel.calls (k : Nat) (a0_0 : Int) (A0_1 : Option Addr) (c0_1 : Nat) (l0_1 : List (S96)) (r1 : Int) (r2 : List (S96)) (w : World) (hr0_1 : Kd.C k96 w A0_1 l0_1.length l0_1) (hc0_1 : l0_1.length ≤ c0_1) (h : tenetref00_CopyLevel.f k a0_0 l0_1 = some (r1, r2)) :
    Calls Try.prog 77 #[.agg #[.int .i64 a0_0, .slice A0_1 l0_1.length c0_1]] w fun e w' => ∃ v1_ : Value, e = .returned (.agg #[.int .i64 r1, v1_]) ∧ Kd.R k96 96 w' w.heap.size (fun _ => True) v1_ r2 ∧ Below w.heap.size w w' := by
  have hu41 := Try.underlying41
  have hu96 := Try.underlying96
  have HR0_1 := Aside0.mk hr0_1
  have HC0_1 := Aside0.mk hc0_1
  clear hr0_1 hc0_1
  have HB := Aside0.mk (Below.refl w.heap.size w)
  have H : (tenetref00_CopyLevel.l0 k 0 a0_0 l0_1 a0_0 ([] : List (S96))) = some (r1, r2) := h
  clear h
  have H' := Aside0.mk H
  clear H
  go_enter Try.func77, Try.ntmps77
  go_wp2_with (first | ((with_reducible refine gate_dst (N := 1) rfl ?_); refine box_event ?hg (N := 1) ?hd (cs := #[.int .i64 a0_0, .slice A0_1 l0_1.length c0_1]) (t := 41) ?hr ?_; (case hd => rfl); (case hg => rfl); (case hr => first | (go_simp; done) | (go_simp; rfl)); intro gb665 hg w2 hbox hb; have n0_ := Aside0.mk (below_step (by repeat (first | (with_reducible first | exact HB.out | apply below_alloc | apply pw_below_drewN | apply below_drew1) | exact HB.out)) hb); have n1_ := Aside0.mk (hbox); have n2_ := Aside0.mk ((by rw [hg]; exact (below_size (by repeat (first | (with_reducible first | exact HB.out | apply below_alloc | apply pw_below_drewN | apply below_drew1) | exact HB.out))) : w.heap.size ≤ gb665)); have n3_ := Aside0.mk ((by rw [hg]; exact (below_size (by repeat (first | (with_reducible first | exact HB.out | apply below_alloc | apply pw_below_drewN | apply below_drew1) | exact HB.out))) : w.heap.size ≤ gb665)); clear HB; have HB := n0_; have BK665 := n1_; have GW665 := n2_; have GE665 := n3_; clear n0_ n1_ n2_ n3_; clear hb hbox hg) | ((with_reducible refine gate_dst (N := 2) rfl ?_); refine box_event ?hg (N := 2) ?hd (cs := #[.int .i64 0, .slice none 0 0]) (t := 41) ?hr ?_; (case hd => rfl); (case hg => rfl); (case hr => first | (go_simp; done) | (go_simp; rfl)); intro gb666 hg w3 hbox hb; have n0_ := Aside0.mk (blk_below (g := gb665) (o := .cells #[.int .i64 a0_0, .slice A0_1 l0_1.length c0_1] 41 (0, 0)) (by (with_reducible repeat (first | refine blk_drewN ?_ _ | refine blk_drew ?_ | refine blk_alloc ?_ _)); exact BK665.out) hb); have n1_ := Aside0.mk (below_step (by repeat (first | (with_reducible first | exact HB.out | apply below_alloc | apply pw_below_drewN | apply below_drew1 | refine below_set ?_ GE665.out) | exact HB.out)) hb); have n2_ := Aside0.mk (hbox); have n3_ := Aside0.mk ((by rw [hg]; exact (below_size (by repeat (first | (with_reducible first | exact HB.out | apply below_alloc | apply pw_below_drewN | apply below_drew1 | refine below_set ?_ GE665.out) | exact HB.out))) : w.heap.size ≤ gb666)); have n4_ := Aside0.mk ((by rw [hg]; exact (below_size (by repeat (first | (with_reducible first | exact HB.out | apply below_alloc | apply pw_below_drewN | apply below_drew1 | refine below_set ?_ GE665.out) | exact HB.out))) : w.heap.size ≤ gb666)); have n5_ := Aside0.mk ((by rw [hg]; exact Nat.ne_of_lt (blk_lt (g := gb665) (o := .cells #[.int .i64 a0_0, .slice A0_1 l0_1.length c0_1] 41 (0, 0)) (by (with_reducible repeat (first | refine blk_drewN ?_ _ | refine blk_drew ?_ | refine blk_alloc ?_ _)); exact BK665.out)) : gb665 ≠ gb666)); have n6_ := Aside0.mk ((by rw [hg]; exact Nat.ne_of_gt (blk_lt (g := gb665) (o := .cells #[.int .i64 a0_0, .slice A0_1 l0_1.length c0_1] 41 (0, 0)) (by (with_reducible repeat (first | refine blk_drewN ?_ _ | refine blk_drew ?_ | refine blk_alloc ?_ _)); exact BK665.out)) : gb666 ≠ gb665)); clear BK665; clear HB; have BK665 := n0_; have HB := n1_; have BK666 := n2_; have GW666 := n3_; have GE666 := n4_; have NB665_666 := n5_; have NB666_665 := n6_; clear n0_ n1_ n2_ n3_ n4_ n5_ n6_; clear hb hbox hg; have hnb4 := NB665_666.out; have hnc4 := NB666_665.out; have hcz5_0 : w3.cell? ⟨gb665, 0, none⟩ = some (.int .i64 a0_0) := (blk_cell BK665.out 0).trans rfl; have hcz5_1 : w3.cell? ⟨gb665, 1, none⟩ = some (.slice A0_1 l0_1.length c0_1) := (blk_cell BK665.out 1).trans rfl; have hfz5_0 := blk_frozen BK665.out 0; have hfz5_1 := blk_frozen BK665.out 1) | ((with_reducible refine gate_dst (N := 3) rfl ?_); refine box_event ?hg (N := 3) ?hd (cs := #[.int .i64 0, .slice none 0 0]) (t := 41) ?hr ?_; (case hd => rfl); (case hg => rfl); (case hr => first | (go_simp; done) | (go_simp; rfl)); intro gb667 hg w6 hbox hb; have n0_ := Aside0.mk (blk_below (g := gb665) (o := .cells #[.int .i64 a0_0, .slice A0_1 l0_1.length c0_1] 41 (0, 0)) (by (with_reducible repeat (first | refine blk_drewN ?_ _ | refine blk_drew ?_ | refine blk_alloc ?_ _)); exact BK665.out) hb); have n1_ := Aside0.mk (blk_below (g := gb666) (o := .cells #[.int .i64 0, .slice none 0 0] 41 (0, 0)) (by (with_reducible repeat (first | refine blk_drewN ?_ _ | refine blk_drew ?_ | refine blk_alloc ?_ _)); exact BK666.out) hb); have n2_ := Aside0.mk (below_step (by repeat (first | (with_reducible first | exact HB.out | apply below_alloc | apply pw_below_drewN | apply below_drew1 | refine below_set ?_ GE665.out | refine below_set ?_ GE666.out) | exact HB.out)) hb); have n3_ := Aside0.mk (hbox); have n4_ := Aside0.mk ((by rw [hg]; exact (below_size (by repeat (first | (with_reducible first | exact HB.out | apply below_alloc | apply pw_below_drewN | apply below_drew1 | refine below_set ?_ GE665.out | refine below_set ?_ GE666.out) | exact HB.out))) : w.heap.size ≤ gb667)); have n5_ := Aside0.mk ((by rw [hg]; exact (below_size (by repeat (first | (with_reducible first | exact HB.out | apply below_alloc | apply pw_below_drewN | apply below_drew1 | refine below_set ?_ GE665.out | refine below_set ?_ GE666.out) | exact HB.out))) : w.heap.size ≤ gb667)); have n6_ := Aside0.mk ((by rw [hg]; exact Nat.ne_of_lt (blk_lt (g := gb665) (o := .cells #[.int .i64 a0_0, .slice A0_1 l0_1.length c0_1] 41 (0, 0)) (by (with_reducible repeat (first | refine blk_drewN ?_ _ | refine blk_drew ?_ | refine blk_alloc ?_ _)); exact BK665.out)) : gb665 ≠ gb667)); have n7_ := Aside0.mk ((by rw [hg]; exact Nat.ne_of_gt (blk_lt (g := gb665) (o := .cells #[.int .i64 a0_0, .slice A0_1 l0_1.length c0_1] 41 (0, 0)) (by (with_reducible repeat (first | refine blk_drewN ?_ _ | refine blk_drew ?_ | refine blk_alloc ?_ _)); exact BK665.out)) : gb667 ≠ gb665)); have n8_ := Aside0.mk ((by rw [hg]; exact Nat.ne_of_lt (blk_lt (g := gb666) (o := .cells #[.int .i64 0, .slice none 0 0] 41 (0, 0)) (by (with_reducible repeat (first | refine blk_drewN ?_ _ | refine blk_drew ?_ | refine blk_alloc ?_ _)); exact BK666.out)) : gb666 ≠ gb667)); have n9_ := Aside0.mk ((by rw [hg]; exact Nat.ne_of_gt (blk_lt (g := gb666) (o := .cells #[.int .i64 0, .slice none 0 0] 41 (0, 0)) (by (with_reducible repeat (first | refine blk_drewN ?_ _ | refine blk_drew ?_ | refine blk_alloc ?_ _)); exact BK666.out)) : gb667 ≠ gb666)); clear BK665; clear BK666; clear HB; have BK665 := n0_; have BK666 := n1_; have HB := n2_; have BK667 := n3_; have GW667 := n4_; have GE667 := n5_; have NB665_667 := n6_; have NB667_665 := n7_; have NB666_667 := n8_; have NB667_666 := n9_; clear n0_ n1_ n2_ n3_ n4_ n5_ n6_ n7_ n8_ n9_; clear hb hbox hg; have hnb7 := NB667_665.out; have hnc7 := NB665_667.out; have hnb8 := NB667_666.out; have hnc8 := NB666_667.out; have hcz9_0 : w6.cell? ⟨gb667, 0, none⟩ = some (.int .i64 0) := (blk_cell BK667.out 0).trans rfl; have hcz9_1 : w6.cell? ⟨gb667, 1, none⟩ = some (.slice none 0 0) := (blk_cell BK667.out 1).trans rfl; have hfz9_0 := blk_frozen BK667.out 0; have hfz9_1 := blk_frozen BK667.out 1))
  go_loopg [4] k (fun kq v4 w' => ∃ (x4_1 : Int) (x668001_1 : List (S96)) (u668001 : Value), v4 = .int .i64 x4_1 ∧ Aside0 (tenetref00_CopyLevel.l0 kq x4_1 a0_0 l0_1 a0_0 x668001_1 = some (r1, r2)) ∧ Aside0 (kq ≤ k) ∧ Aside0 (Kd.R k96 96 w' w.heap.size (fun _ => True) u668001 x668001_1) ∧ Aside0 (w'.heap[gb665]? = some (.cells #[.int .i64 a0_0, (.slice A0_1 l0_1.length c0_1)] 41 (0, 0))) ∧ Aside0 (w'.heap[gb666]? = some (.cells #[.int .i64 0, (.slice none 0 0)] 41 (0, 0))) ∧ Aside0 (w'.heap[gb667]? = some (.cells #[.int .i64 a0_0, u668001] 41 (0, 0))) ∧ Aside0 (Below w.heap.size w w'))
  case atStart => exact ⟨(0), (([] : List (S96))), (.slice none 0 0), (by first | rfl | (simp; done) | (simp [*]; done)), H', ⟨Nat.le_refl _⟩, ⟨by first | exact Kd.R_nil _ _ _ _ _ | exact Kd.N_nil _ _ _ _ _ | exact Kd.V_nil _ _ _ _ _ | exact Kd.Q_nil _ _ _ _ _ | exact Kd.S_nil _ _ _ _ _⟩, ⟨by (with_reducible repeat (first | refine blk_drewN ?_ _ | refine blk_drew ?_ | refine blk_alloc ?_ _)); refine blk_far ?_ NB665_667.out _; (with_reducible repeat (first | refine blk_drewN ?_ _ | refine blk_drew ?_ | refine blk_alloc ?_ _)); refine blk_far ?_ NB665_667.out _; (with_reducible repeat (first | refine blk_drewN ?_ _ | refine blk_drew ?_ | refine blk_alloc ?_ _)); exact BK665.out⟩, ⟨by (with_reducible repeat (first | refine blk_drewN ?_ _ | refine blk_drew ?_ | refine blk_alloc ?_ _)); refine blk_far ?_ NB666_667.out _; (with_reducible repeat (first | refine blk_drewN ?_ _ | refine blk_drew ?_ | refine blk_alloc ?_ _)); refine blk_far ?_ NB666_667.out _; (with_reducible repeat (first | refine blk_drewN ?_ _ | refine blk_drew ?_ | refine blk_alloc ?_ _)); exact BK666.out⟩, ⟨by (with_reducible repeat (first | refine blk_drewN ?_ _ | refine blk_drew ?_ | refine blk_alloc ?_ _)); refine blk_put (cs := #[.int .i64 a0_0, .slice none 0 0]) ?_ 1 _ rfl; (with_reducible repeat (first | refine blk_drewN ?_ _ | refine blk_drew ?_ | refine blk_alloc ?_ _)); refine blk_put (cs := #[.int .i64 0, .slice none 0 0]) ?_ 0 _ rfl; (with_reducible repeat (first | refine blk_drewN ?_ _ | refine blk_drew ?_ | refine blk_alloc ?_ _)); exact BK667.out⟩, ⟨by repeat (first | (with_reducible first | exact HB.out | apply below_alloc | apply pw_below_drewN | apply below_drew1 | refine below_set ?_ GE665.out | refine below_set ?_ GE666.out | refine below_set ?_ GE667.out) | exact HB.out)⟩⟩
  case round =>
    clear H'
    try clear p2
    try clear c4
    try clear c7
    try clear c8
    try clear hcz5_0
    try clear hcz5_1
    try clear hcz9_0
    try clear hcz9_1
    try clear hfz5_0
    try clear hfz5_1
    try clear hfz9_0
    try clear hfz9_1
    obtain ⟨x4_1, x668001_1, u668001, rfl, HA, HK1, HO_668001, BK665, BK666, BK667, HB⟩ := hrel
    cases gk with
    | zero => exact absurd HA.out (by simp [tenetref00_CopyLevel.l0])
    | succ k1 =>
      have H := HA.out
      clear HA
      simp only [tenetref00_CopyLevel.l0] at H
      by_cases c10 : x4_1 < (l0_1.length : Int)
      · rw [if_pos c10] at H
        have c10b0 : decide (x4_1 < (l0_1.length : Int)) = true := decide_eq_true c10
        clear c10
        by_cases c11 : 0 ≤ x4_1
        · rw [if_pos c11] at H
          have c11b0 : decide (0 ≤ x4_1) = true := decide_eq_true c11
          clear c11
          by_cases c12 : x668001_1.length < 8796093022208
          · rw [if_pos c12] at H
            have LMc12 := Aside0.mk c12
            clear c12
            obtain ⟨y669, hy669⟩ : ∃ y_ : List (S96), y_ = (x668001_1 ++ [(⟨(rd_T96 l0_1 x4_1).f0, (rd_T96 l0_1 x4_1).f1⟩ : S96)]) := ⟨_, rfl⟩
            replace H : (tenetref00_CopyLevel.l0 k1 (wrap64 (x4_1 + 1)) a0_0 l0_1 a0_0 y669) = some (r1, r2) := by first | (rw [hy669]; with_reducible exact H) | (have H2_ := (Option.bind_some _ _).symm.trans H; rw [hy669]; with_reducible exact H2_) | (have H2_ := (Option.bind_some _ _).symm.trans H; with_reducible exact H2_) | with_reducible exact H | (rw [hy669]; exact H) | exact H
            have Ny669 := Aside0.mk hy669
            clear hy669
            have H' := Aside0.mk H
            clear H
            have hnb13 := NB665_666.out
            have hnc13 := NB666_665.out
            have hnb14 := NB665_667.out
            have hnc14 := NB667_665.out
            have hcz15_0 : wr.cell? ⟨gb665, 0, none⟩ = some (.int .i64 a0_0) := (blk_cell BK665.out 0).trans rfl
            have hcz15_1 : wr.cell? ⟨gb665, 1, none⟩ = some (.slice A0_1 l0_1.length c0_1) := (blk_cell BK665.out 1).trans rfl
            have hfz15_0 := blk_frozen BK665.out 0
            have hfz15_1 := blk_frozen BK665.out 1
            try go_wp2
            have n0_ := Aside0.mk (Kd.R_drew HO_668001.out)
            have n1_ := Aside0.mk (blk_drew BK665.out)
            have n2_ := Aside0.mk (blk_drew BK666.out)
            have n3_ := Aside0.mk (blk_drew BK667.out)
            have n4_ := Aside0.mk (below_drew1 HB.out)
            clear HO_668001
            clear BK665
            clear BK666
            clear BK667
            clear HB
            have HO_668001 := n0_
            have BK665 := n1_
            have BK666 := n2_
            have BK667 := n3_
            have HB := n4_
            clear n0_ n1_ n2_ n3_ n4_
            have p668 : 0 ≤ (x4_1 : Int) := of_decide_eq_true (by first | (with_reducible assumption) | assumption)
            have q668 : x4_1 < (l0_1.length : Int) := of_decide_eq_true (by first | (with_reducible assumption) | assumption)
            obtain ⟨ad668, e668, hx668_0, hx668_1⟩ := at_T96 HR0_1.out x4_1 p668 q668
            have hw668_1 := hx668_1
            have hw668_0 := hx668_0
            cases e668
            replace hx668_0 := (HB.out.cell (World.block_lt_of_cell? w _ hx668_0)).trans hx668_0
            replace hx668_1 := (HB.out.cell (World.block_lt_of_cell? w _ hx668_1)).trans hx668_1
            replace p668 := eq_true p668
            replace q668 := eq_true q668
            refine start_ (n := 11) (S := fun w' => w'.cell? ⟨gb667, 0, none⟩ = some (.int .i64 a0_0) ∧ w'.cell? ⟨gb667, 1, none⟩ = some (u668001) ∧ w'.cell? ⟨gb665, 0, none⟩ = some (.int .i64 a0_0) ∧ w'.cell? ⟨gb665, 1, none⟩ = some (.slice (some ad668) l0_1.length c0_1) ∧ w'.cell? (ad668.add ((x4_1).toNat * 2)) = some (.int .i64 ((rd_T96 l0_1 x4_1).f0)) ∧ w'.cell? ⟨(ad668.add ((x4_1).toNat * 2)).block, (ad668.add ((x4_1).toNat * 2)).off + 1, none⟩ = some (.int .i64 ((rd_T96 l0_1 x4_1).f1))) (ds := [10]) #[false, false, false, false, false, false, false, false, false, false, false] (by kernel_rfl) rfl rfl ⟨(blk_cell BK667.out 0).trans rfl, (blk_cell BK667.out 1).trans rfl, (blk_cell BK665.out 0).trans rfl, (blk_cell BK665.out 1).trans rfl, ((HB.out.cell (World.block_lt_of_cell? w _ hw668_0)).trans hw668_0), ((HB.out.cell (World.block_lt_of_cell? w _ hw668_1)).trans hw668_1)⟩ (fun hHeld => ?_); refine with_tabW tenetref00_CopyLevel.tab5 tenetref00_CopyLevel.bits5 (fun HT_ HW_ => ?_)
            generalize wr.drew = w16 at HO_668001 BK665 BK666 BK667 HB hx668_0 hx668_1 hHeld ⊢
            refine pure_ (i := 0) (N := some 15) (v := ?_) (a' := ?_) #[true, false, false, false, false, false, false, false, false, false, false] rfl rfl (any_of HT_.out (by kernel_rfl)) (fun _ _ _ h => h) (Or.inl ⟨by rfl, ?_⟩) ?_ ?_
            rotate_left
            · intro w'
              go_simp
              with_reducible rfl
            rotate_left
            · simp only [Act.put, List.setIfInBounds_toArray, List.set_cons_zero, List.set_cons_succ, i64_w, i32_w]
              rfl
            refine pure_ (i := 2) (N := some 17) (v := ?_) (a' := ?_) #[true, false, true, false, false, false, false, false, false, false, false] rfl rfl (any_of HT_.out (by kernel_rfl)) (fun _ _ _ h => h) (Or.inl ⟨by rfl, ?_⟩) ?_ ?_
            rotate_left
            · intro w'
              go_simp
              with_reducible rfl
            rotate_left
            · simp only [Act.put, List.setIfInBounds_toArray, List.set_cons_zero, List.set_cons_succ, i64_w, i32_w]
              rfl
            refine pure_ (i := 4) (N := some 19) (v := ?_) (a' := ?_) #[true, false, true, false, true, false, false, false, false, false, false] rfl rfl (any_of HT_.out (by kernel_rfl)) (fun _ _ _ h => h) (Or.inl ⟨by rfl, ?_⟩) ?_ ?_
            rotate_left
            · intro w'
              go_simp
              with_reducible rfl
            rotate_left
            · simp only [Act.put, List.setIfInBounds_toArray, List.set_cons_zero, List.set_cons_succ, i64_w, i32_w]
              rfl
            refine take_ (i := 1) (N := some 16) (v := ?_) (a' := ?_) #[true, true, true, false, true, false, false, false, false, false, false] rfl rfl (take_ofW HT_.out HW_.out (by kernel_rfl)) (fun _ _ _ h => h) (Or.inl ⟨by rfl, ?_⟩) hHeld ?_ ?_
            rotate_left
            · rintro w' ⟨s0, s1, s2, s3, s4, s5⟩
              go_simp
              with_reducible rfl
            rotate_left
            · simp only [Act.put, List.setIfInBounds_toArray, List.set_cons_zero, List.set_cons_succ, i64_w, i32_w]
              rfl
            refine take_ (i := 3) (N := some 18) (v := ?_) (a' := ?_) #[true, true, true, true, true, false, false, false, false, false, false] rfl rfl (take_ofW HT_.out HW_.out (by kernel_rfl)) (fun _ _ _ h => h) (Or.inl ⟨by rfl, ?_⟩) hHeld ?_ ?_
            rotate_left
            · rintro w' ⟨s0, s1, s2, s3, s4, s5⟩
              go_simp
              with_reducible rfl
            rotate_left
            · simp only [Act.put, List.setIfInBounds_toArray, List.set_cons_zero, List.set_cons_succ, i64_w, i32_w]
              rfl
            refine pure_ (i := 5) (N := some 20) (v := ?_) (a' := ?_) #[true, true, true, true, true, true, false, false, false, false, false] rfl rfl (any_of HT_.out (by kernel_rfl)) (fun _ _ _ h => h) (Or.inl ⟨by rfl, ?_⟩) ?_ ?_
            rotate_left
            · intro w'
              go_simp
              with_reducible rfl
            rotate_left
            · simp only [Act.put, List.setIfInBounds_toArray, List.set_cons_zero, List.set_cons_succ, i64_w, i32_w]
              rfl
            refine take_ (i := 6) (N := some 21) (v := ?_) (a' := ?_) #[true, true, true, true, true, true, true, false, false, false, false] rfl rfl (take_ofW HT_.out HW_.out (by kernel_rfl)) (fun _ _ _ h => h) (Or.inl ⟨by rfl, ?_⟩) hHeld ?_ ?_
            rotate_left
            · rintro w' ⟨s0, s1, s2, s3, s4, s5⟩
              go_simp
              with_reducible rfl
            rotate_left
            · simp only [Act.put, List.setIfInBounds_toArray, List.set_cons_zero, List.set_cons_succ, i64_w, i32_w]
              rfl
            refine one_ (i := 7) (N := some 22) #[true, true, true, true, true, true, true, true, false, false, false] rfl rfl (one_of HT_.out (by kernel_rfl)) (by decide) (fun K hK => ?_)
            refine value_ (w1 := ?_) (v := ?_) (by rfl) rfl ?_ ?_
            rotate_left 2
            · go_simp
              constructor
              · rfl
              · rfl
            refine hK.out _ _ ⟨(blk_cell (blk_alloc BK667.out _) 0).trans rfl, (blk_cell (blk_alloc BK667.out _) 1).trans rfl, (blk_cell (blk_alloc BK665.out _) 0).trans rfl, (blk_cell (blk_alloc BK665.out _) 1).trans rfl, (World.cell?_alloc_lt _ _ _ (World.block_lt_of_cell? _ _ (((HB.out.cell (World.block_lt_of_cell? w _ hw668_0)).trans hw668_0)))).trans (((HB.out.cell (World.block_lt_of_cell? w _ hw668_0)).trans hw668_0)), (World.cell?_alloc_lt _ _ _ (World.block_lt_of_cell? _ _ (((HB.out.cell (World.block_lt_of_cell? w _ hw668_1)).trans hw668_1)))).trans (((HB.out.cell (World.block_lt_of_cell? w _ hw668_1)).trans hw668_1))⟩ (fun hHeld => ?_)
            clear hK K
            refine norm_ (a' := ?_) ?_ ?_
            rotate_left
            · show Act.put _ (some 22) _ = _
              simp only [Act.put, List.setIfInBounds_toArray, List.set_cons_zero, List.set_cons_succ, i64_w, i32_w]
              rfl
            refine one_ (i := 8) (N := some 23) #[true, true, true, true, true, true, true, true, true, false, false] rfl rfl (one_of HT_.out (by kernel_rfl)) (by decide) (fun K hK => ?_)
            refine Kd.R_append_step k96 (w0 := w) w.heap.size (by rfl) (.tmp 16) (.tmp 22) 39 96 (.agg #[(.int .i64 0), (.int .i64 0)]) 16 rfl Try.underlying39 info96 rfl (by decide) (by omega) u668001 x668001_1 (⟨(rd_T96 l0_1 x4_1).f0, (rd_T96 l0_1 x4_1).f1⟩ : S96) [.int .i64 ((rd_T96 l0_1 x4_1).f0), .int .i64 ((rd_T96 l0_1 x4_1).f1)] (fun _ => True) (fun _ => False) rfl rfl ?aP (fun _ hk => hk.elim) ?aF ?aO ?aB ?aS ?aL ?_
            (case aP => exact k96_mkM _ _ _ (⟨(rd_T96 l0_1 x4_1).f0, (rd_T96 l0_1 x4_1).f1⟩ : S96))
            (case aB => exact (by repeat (first | (with_reducible first | exact HB.out | apply below_alloc | apply pw_below_drewN | apply below_drew1 | refine below_set ?_ GE665.out | refine below_set ?_ GE666.out | refine below_set ?_ GE667.out) | exact HB.out)))
            (case aF => exact (fun _ _ => trivial))
            (case aO => exact (by (with_reducible repeat (first | apply Kd.R_alloc | apply Kd.R_drewN | apply Kd.R_drew)); exact HO_668001.out))
            (case aS => exact (below_size (by repeat (first | (with_reducible first | exact HB.out | apply below_alloc | apply pw_below_drewN | apply below_drew1 | refine below_set ?_ GE665.out | refine below_set ?_ GE666.out | refine below_set ?_ GE667.out) | exact HB.out))))
            (case aL => have := LMc12.out; omega)
            intro v670 w17 ho hb hg hat
            rw [← Ny669.out] at ho
            have n0_ := Aside0.mk (blk_grown (g := gb665) (o := .cells #[.int .i64 a0_0, .slice (some ad668) l0_1.length c0_1] 41 (0, 0)) (by (with_reducible repeat (first | refine blk_drewN ?_ _ | refine blk_drew ?_ | refine blk_alloc ?_ _)); exact BK665.out) hg (Kd.R_ne HO_668001.out BK665.out (by decide)))
            have n1_ := Aside0.mk (blk_grown (g := gb666) (o := .cells #[.int .i64 0, .slice none 0 0] 41 (0, 0)) (by (with_reducible repeat (first | refine blk_drewN ?_ _ | refine blk_drew ?_ | refine blk_alloc ?_ _)); exact BK666.out) hg (Kd.R_ne HO_668001.out BK666.out (by decide)))
            have n2_ := Aside0.mk (blk_grown (g := gb667) (o := .cells #[.int .i64 a0_0, u668001] 41 (0, 0)) (by (with_reducible repeat (first | refine blk_drewN ?_ _ | refine blk_drew ?_ | refine blk_alloc ?_ _)); exact BK667.out) hg (Kd.R_ne HO_668001.out BK667.out (by decide)))
            have n3_ := Aside0.mk (hb)
            have n4_ := Aside0.mk (ho)
            clear BK665
            clear BK666
            clear BK667
            clear HB
            clear HO_668001
            have BK665 := n0_
            have BK666 := n1_
            have BK667 := n2_
            have HB := n3_
            have HO671 := n4_
            clear n0_ n1_ n2_ n3_ n4_
            clear ho hb hg hat
            obtain ⟨Ao18, co18, eo18⟩ := Kd.R_slice HO671.out
            (first | subst eo18 | (injection eo18 with f1_ f2_ f3_; have f4_ := f1_.symm; have f5_ := f3_.symm; clear f1_ f2_ f3_; subst f4_; subst f5_))
            refine hK.out _ _ ⟨(blk_cell BK667.out 0).trans rfl, (blk_cell BK667.out 1).trans rfl, (blk_cell BK665.out 0).trans rfl, (blk_cell BK665.out 1).trans rfl, ((HB.out.cell (World.block_lt_of_cell? w _ hw668_0)).trans hw668_0), ((HB.out.cell (World.block_lt_of_cell? w _ hw668_1)).trans hw668_1)⟩ (fun hHeld => ?_)
            clear hK K
            refine norm_ (a' := ?_) ?_ ?_
            rotate_left
            · show Act.put _ (some 23) _ = _
              simp only [Act.put, List.setIfInBounds_toArray, List.set_cons_zero, List.set_cons_succ, i64_w, i32_w]
              rfl
            refine pure_ (i := 9) (N := some 24) (v := ?_) (a' := ?_) #[true, true, true, true, true, true, true, true, true, true, false] rfl rfl (any_of HT_.out (by kernel_rfl)) (fun _ _ _ h => h) (Or.inl ⟨by rfl, ?_⟩) ?_ ?_
            rotate_left
            · intro w'
              go_simp
              with_reducible rfl
            rotate_left
            · simp only [Act.put, List.setIfInBounds_toArray, List.set_cons_zero, List.set_cons_succ, i64_w, i32_w]
              rfl
            refine last_ (i := 10) (N := none) #[true, true, true, true, true, true, true, true, true, true, true] rfl rfl (one_of HT_.out (by kernel_rfl)) (by decide) (fun K hK => ?_)
            have hs19 : w17.cell? ⟨gb667, 1, none⟩ = some (u668001) := (blk_cell BK667.out 1).trans rfl
            have hfs19 := blk_frozen BK667.out 1
            have hns19_0 := NB665_667.out
            have hns19_1 := NB666_667.out
            have hms19_0 := NB667_665.out
            have hms19_1 := NB667_666.out
            refine skip_ (w1 := ?_) (by rfl) rfl ?_ ?_
            rotate_left
            · go_simp
              rfl
            refine hK.out _ _ ?_
            clear hK K
            refine done_ (done_of HT_.out (by kernel_rfl)) ?_
            try go_wp2
            go_roundg k1
            case measure => have := HK1.out; omega
            case rel => exact ⟨(wrap64 (x4_1 + 1)), (y669), (.slice Ao18 y669.length co18), (by first | rfl | (simp; done) | (simp [*]; done)), H', ⟨by have := HK1.out; omega⟩, ⟨by (with_reducible repeat (first | apply Kd.R_alloc | apply Kd.R_drewN | apply Kd.R_drew)); exact Kd.R_mono (Kd.R_far (p := ⟨gb667, 1, none⟩) (Kd.R_types HO671.out BK667.out (by decide)) (fun _ hk => hk.2) (.slice Ao18 y669.length co18)) (fun _ hk => trivial)⟩, ⟨by (with_reducible repeat (first | refine blk_drewN ?_ _ | refine blk_drew ?_ | refine blk_alloc ?_ _)); refine blk_far ?_ NB665_667.out _; (with_reducible repeat (first | refine blk_drewN ?_ _ | refine blk_drew ?_ | refine blk_alloc ?_ _)); exact BK665.out⟩, ⟨by (with_reducible repeat (first | refine blk_drewN ?_ _ | refine blk_drew ?_ | refine blk_alloc ?_ _)); refine blk_far ?_ NB666_667.out _; (with_reducible repeat (first | refine blk_drewN ?_ _ | refine blk_drew ?_ | refine blk_alloc ?_ _)); exact BK666.out⟩, ⟨by (with_reducible repeat (first | refine blk_drewN ?_ _ | refine blk_drew ?_ | refine blk_alloc ?_ _)); refine blk_put (cs := #[.int .i64 a0_0, u668001]) ?_ 1 _ rfl; (with_reducible repeat (first | refine blk_drewN ?_ _ | refine blk_drew ?_ | refine blk_alloc ?_ _)); exact BK667.out⟩, ⟨by repeat (first | (with_reducible first | exact HB.out | apply below_alloc | apply pw_below_drewN | apply below_drew1 | refine below_set ?_ GE665.out | refine below_set ?_ GE666.out | refine below_set ?_ GE667.out) | exact HB.out)⟩⟩
          · rw [if_neg c12] at H
            exact absurd H (by simp)
        · rw [if_neg c11] at H
          exact absurd H (by simp)
      · rw [if_neg c10] at H
        have c10b0 : decide (x4_1 < (l0_1.length : Int)) = false := decide_eq_false c10
        clear c10
        simp only [Option.some.injEq, Prod.mk.injEq] at H
        obtain ⟨rfl, rfl⟩ := H
        have hnb20 := NB665_666.out
        have hnc20 := NB666_665.out
        have hnb21 := NB665_667.out
        have hnc21 := NB667_665.out
        have hcz22_0 : wr.cell? ⟨gb665, 0, none⟩ = some (.int .i64 a0_0) := (blk_cell BK665.out 0).trans rfl
        have hcz22_1 : wr.cell? ⟨gb665, 1, none⟩ = some (.slice A0_1 l0_1.length c0_1) := (blk_cell BK665.out 1).trans rfl
        have hfz22_0 := blk_frozen BK665.out 0
        have hfz22_1 := blk_frozen BK665.out 1
        have hnb23 := NB667_666.out
        have hnc23 := NB666_667.out
        have hcz24_0 : wr.cell? ⟨gb667, 0, none⟩ = some (.int .i64 a0_0) := (blk_cell BK667.out 0).trans rfl
        have hcz24_1 : wr.cell? ⟨gb667, 1, none⟩ = some (u668001) := (blk_cell BK667.out 1).trans rfl
        have hfz24_0 := blk_frozen BK667.out 0
        have hfz24_1 := blk_frozen BK667.out 1
        have hcz25_0 : wr.cell? ⟨gb666, 0, none⟩ = some (.int .i64 0) := (blk_cell BK666.out 0).trans rfl
        have hcz25_1 : wr.cell? ⟨gb666, 1, none⟩ = some (.slice none 0 0) := (blk_cell BK666.out 1).trans rfl
        have hfz25_0 := blk_frozen BK666.out 0
        have hfz25_1 := blk_frozen BK666.out 1
        obtain ⟨Ao26, co26, eo26⟩ := Kd.R_slice HO_668001.out
        subst eo26
        go_wp2
        refine bodyPost_ret (results_cell_row rfl _ _ gb666 41 #[.int .i64 a0_0, .slice Ao26 x668001_1.length co26] (0, 0) _ rfl (by (with_reducible repeat (first | refine blk_drewN ?_ _ | refine blk_drew ?_ | refine blk_alloc ?_ _)); refine blk_put (cs := #[.int .i64 a0_0, .slice none 0 0]) ?_ 1 _ rfl; (with_reducible repeat (first | refine blk_drewN ?_ _ | refine blk_drew ?_ | refine blk_alloc ?_ _)); refine blk_put (cs := #[.int .i64 0, .slice none 0 0]) ?_ 0 _ rfl; (with_reducible repeat (first | refine blk_drewN ?_ _ | refine blk_drew ?_ | refine blk_alloc ?_ _)); exact BK666.out) Try.underlying41 rfl (by kernel_rfl)) rfl ?_
        exact ⟨_, by first | rfl | (simp [errW_none, errW_some] <;> rfl) | (simp [*, errW_none, errW_some] <;> rfl), by (with_reducible repeat (first | apply Kd.R_alloc | apply Kd.R_drewN | apply Kd.R_drew)); exact Kd.R_mono (Kd.R_far (p := ⟨gb666, 1, none⟩) (Kd.R_far (p := ⟨gb666, 0, none⟩) (Kd.R_types HO_668001.out BK666.out (by decide)) (fun _ hk => hk.2) (.int .i64 a0_0)) (fun _ hk => hk.2) (.slice Ao26 x668001_1.length co26)) (fun _ hk => trivial), by repeat (first | (with_reducible first | exact HB.out | apply below_alloc | apply pw_below_drewN | apply below_drew1 | refine below_set ?_ GE665.out | refine below_set ?_ GE666.out | refine below_set ?_ GE667.out) | exact HB.out)⟩

end Go.Proofs.Ytegejpcglabhbaa.G
