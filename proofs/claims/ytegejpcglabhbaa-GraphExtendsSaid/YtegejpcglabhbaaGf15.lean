-- Made by a program of this claim's author out of the translation (a patched run of the kit's print).
import Derived.Test.YtegejpcglabhbaaG0
import Derived.Test.YtegejpcglabhbaaGf20
import Derived.Test.YtegejpcglabhbaaGf21
import Derived.Test.YtegejpcglabhbaaGf26
import Derived.Test.YtegejpcglabhbaaGf43
import Derived.Test.YtegejpcglabhbaaGHe
namespace Go.Proofs.Ytegejpcglabhbaa.G
open Go.RowKit Go.Proofs.YtegejpcglabhbaaW.PrintWords Go.Proofs.YtegejpcglabhbaaW.PrintLast Go.Proofs.YtegejpcglabhbaaW.PrintMore
attribute [local go_sem] max2_int min2_int max_two min_two max_three min_three max_four min_four   -- for this text's walks alone
set_option linter.unusedVariables false
set_option linter.unusedSimpArgs false

/-! ### tenetlaw02_GraphExtends: function 15 -/
def tenetlaw02_GraphExtends.j0 : Nat → Int → List (S44) → Bool → List Int → List (S44) → Option (Bool)
  | 0, _, _, _, _, _ => none
  | k + 1, x0, x1, x25, x652000, x652001 => if x25 = true then ((tenetlaw02_awake.f k).bind fun t654 => (some t654)) else ((graph_Extend.f k x0 x1 x652000 x652001).bind fun bt655 => ((tenetref02_Extend.f k x0 x1 x652000 x652001).bind fun bt659 => (if bt655.2 = bt659.2 then ((tenetref00_EqInts.f k bt655.1 bt659.1).bind fun t663 => (if t663 = true then ((tenetlaw02_awake.f k).bind fun t664 => (some t664)) else (some false))) else (some false))))
def tenetlaw02_GraphExtends.f (k : Nat) (a0 : Int) (l1 : List (S44)) (l2_0 : List Int) (l2_1 : List (S44)) : Option (Bool) := (tenetlaw02_heavy.f k a0 l1 120).bind fun t652 => (if t652 = true then (tenetlaw02_GraphExtends.j0 k a0 l1 true l2_0 l2_1) else ((tenetlaw02_heavy.f k a0 l2_1 120).bind fun t653 => (if t653 = true then (tenetlaw02_GraphExtends.j0 k a0 l1 true l2_0 l2_1) else (tenetlaw02_GraphExtends.j0 k a0 l1 (decide ((l2_0.length : Int) > 1000)) l2_0 l2_1))))
theorem tenetlaw02_GraphExtends.mono_l : ∀ k, (∀ y0 y1 y2 y3 y4, LeO (tenetlaw02_GraphExtends.j0 k y0 y1 y2 y3 y4) (tenetlaw02_GraphExtends.j0 (k + 1) y0 y1 y2 y3 y4))
  | 0 => fun _ _ _ _ _ r h => by simp [tenetlaw02_GraphExtends.j0] at h
  | k + 1 => by
    have ih0 := tenetlaw02_GraphExtends.mono_l k
    · intro y0 y1 y2 y3 y4
      unfold tenetlaw02_GraphExtends.j0
      repeat' first
      | (with_reducible exact ih0 _ _ _ _ _)
      | (with_reducible exact graph_Extend.mono _ _ _ _ _)
      | (with_reducible exact tenetlaw02_awake.mono _)
      | (with_reducible exact tenetlaw02_heavy.mono _ _ _ _)
      | (with_reducible exact tenetref00_EqInts.mono _ _ _)
      | (with_reducible exact tenetref02_Extend.mono _ _ _ _ _)
      | (with_reducible exact LeO.refl _)
      | (with_reducible exact LeO.none _)
      | (with_reducible refine LeO.ite ?_ ?_)
      | (with_reducible refine LeO.bind ?_ (fun _ => ?_))
      | exact ih0 _ _ _ _ _
      | exact graph_Extend.mono _ _ _ _ _
      | exact tenetlaw02_awake.mono _
      | exact tenetlaw02_heavy.mono _ _ _ _
      | exact tenetref00_EqInts.mono _ _ _
      | exact tenetref02_Extend.mono _ _ _ _ _
      | exact LeO.none _
      | refine LeO.ite ?_ ?_
      | refine LeO.bind ?_ (fun _ => ?_)
theorem tenetlaw02_GraphExtends.mono : ∀ a0 a1 a2 a3 k, LeO (tenetlaw02_GraphExtends.f k a0 a1 a2 a3) (tenetlaw02_GraphExtends.f (k + 1) a0 a1 a2 a3) := by
  intro a0 a1 a2 a3 k
  have ih0 := tenetlaw02_GraphExtends.mono_l k
  unfold tenetlaw02_GraphExtends.f
  repeat' first
      | (with_reducible exact ih0 _ _ _ _ _)
      | (with_reducible exact graph_Extend.mono _ _ _ _ _)
      | (with_reducible exact tenetlaw02_awake.mono _)
      | (with_reducible exact tenetlaw02_heavy.mono _ _ _ _)
      | (with_reducible exact tenetref00_EqInts.mono _ _ _)
      | (with_reducible exact tenetref02_Extend.mono _ _ _ _ _)
      | (with_reducible exact LeO.refl _)
      | (with_reducible exact LeO.none _)
      | (with_reducible refine LeO.ite ?_ ?_)
      | (with_reducible refine LeO.bind ?_ (fun _ => ?_))
      | exact ih0 _ _ _ _ _
      | exact graph_Extend.mono _ _ _ _ _
      | exact tenetlaw02_awake.mono _
      | exact tenetlaw02_heavy.mono _ _ _ _
      | exact tenetref00_EqInts.mono _ _ _
      | exact tenetref02_Extend.mono _ _ _ _ _
      | exact LeO.none _
      | refine LeO.ite ?_ ?_
      | refine LeO.bind ?_ (fun _ => ?_)
set_option maxHeartbeats 8000000 in
set_option maxRecDepth 100000 in
theorem tenetlaw02_GraphExtends.calls (k : Nat) (a0 : Int) (A1 : Option Addr) (c1 : Nat) (l1 : List (S44)) (A2_0 : Option Addr) (c2_0 : Nat) (l2_0 : List Int) (A2_1 : Option Addr) (c2_1 : Nat) (l2_1 : List (S44)) (r : Bool) (w : World) (hr1 : Kd.C k44 w A1 l1.length l1) (hc1 : l1.length ≤ c1) (hr2_0 : Kd.C (Kd.int .i64) w A2_0 l2_0.length l2_0) (hc2_0 : l2_0.length ≤ c2_0) (hr2_1 : Kd.C k44 w A2_1 l2_1.length l2_1) (hc2_1 : l2_1.length ≤ c2_1) (h : tenetlaw02_GraphExtends.f k a0 l1 l2_0 l2_1 = some r) :
    Calls Try.prog 15 #[.int .i64 a0, .slice A1 l1.length c1, .agg #[.slice A2_0 l2_0.length c2_0, .slice A2_1 l2_1.length c2_1]] w fun e w' => e = .returned (.bool r) ∧ Below w.heap.size w w' := by
  have hu60 := Try.underlying60
  have HR1 := Aside0.mk hr1
  have HC1 := Aside0.mk hc1
  clear hr1 hc1
  have HR2_0 := Aside0.mk hr2_0
  have HC2_0 := Aside0.mk hc2_0
  clear hr2_0 hc2_0
  have HR2_1 := Aside0.mk hr2_1
  have HC2_1 := Aside0.mk hc2_1
  clear hr2_1 hc2_1
  have HB := Aside0.mk (Below.refl w.heap.size w)
  have H : ((tenetlaw02_heavy.f k a0 l1 120).bind fun t652 => (if t652 = true then (tenetlaw02_GraphExtends.j0 k a0 l1 true l2_0 l2_1) else ((tenetlaw02_heavy.f k a0 l2_1 120).bind fun t653 => (if t653 = true then (tenetlaw02_GraphExtends.j0 k a0 l1 true l2_0 l2_1) else (tenetlaw02_GraphExtends.j0 k a0 l1 (decide ((l2_0.length : Int) > 1000)) l2_0 l2_1))))) = some r := h
  clear h
  have HC4 := Aside0.mk H
  clear H
  go_enter Try.func15, Try.ntmps15
  go_upto_region 1 with (first | ((with_reducible refine gate_dst (N := 5) rfl ?_); (try (refine gate_guard (by rfl) ?_; dsimp only)); refine box_event ?hg (N := 5) ?hd (cs := #[.slice A2_0 l2_0.length c2_0, .slice A2_1 l2_1.length c2_1]) (t := 60) ?hr ?_; (case hd => rfl); (case hg => rfl); (case hr => first | (go_simp; done) | (go_simp; rfl)); intro gb651 hg w5 hbox hb; have n0_ := Aside0.mk (below_step (by repeat (first | (with_reducible first | exact HB.out | apply below_alloc | apply pw_below_drewN | apply below_drew1) | exact HB.out)) hb); have n1_ := Aside0.mk (hbox); have n2_ := Aside0.mk ((by rw [hg]; exact (below_size (by repeat (first | (with_reducible first | exact HB.out | apply below_alloc | apply pw_below_drewN | apply below_drew1) | exact HB.out))) : w.heap.size ≤ gb651)); have n3_ := Aside0.mk ((by rw [hg]; exact (below_size (by repeat (first | (with_reducible first | exact HB.out | apply below_alloc | apply pw_below_drewN | apply below_drew1) | exact HB.out))) : w.heap.size ≤ gb651)); clear HB; have HB := n0_; have BK651 := n1_; have GW651 := n2_; have GE651 := n3_; clear n0_ n1_ n2_ n3_; clear hb hbox hg))
  (try simp only [Act.put, List.setIfInBounds_toArray, List.set_cons_zero, List.set_cons_succ])
  go_cut [25] (fun v25 wc => ∃ (kq : Nat) (x25_3 : Bool), v25 = .bool x25_3 ∧ Aside0 (tenetlaw02_GraphExtends.j0 kq a0 l1 x25_3 l2_0 l2_1 = some r) ∧ Aside0 (kq ≤ k) ∧ Aside0 (wc.heap[gb651]? = some (.cells #[(.slice A2_0 l2_0.length c2_0), (.slice A2_1 l2_1.length c2_1)] 60 (0, 0))) ∧ Aside0 (Below w.heap.size w wc))
  case first =>
    have H := HC4.out
    clear HC4
    replace H := Option.bind_eq_some_iff.mp H
    obtain ⟨t652, A60, H⟩ := H
    replace H : (if t652 = true then (tenetlaw02_GraphExtends.j0 k a0 l1 true l2_0 l2_1) else ((tenetlaw02_heavy.f k a0 l2_1 120).bind fun t653 => (if t653 = true then (tenetlaw02_GraphExtends.j0 k a0 l1 true l2_0 l2_1) else (tenetlaw02_GraphExtends.j0 k a0 l1 (decide ((l2_0.length : Int) > 1000)) l2_0 l2_1)))) = some r := H
    have A6 := Aside0.mk A60
    clear A60
    by_cases c7 : t652 = true
    · subst c7
      have H1 : (tenetlaw02_GraphExtends.j0 k a0 l1 true l2_0 l2_1) = some r := by rw [if_pos rfl] at H; exact H
      clear H
      have H := H1
      clear H1
      have H' := Aside0.mk H
      clear H
      go_wp2_with (first | ((with_reducible refine gate_callee (f := 20) rfl ?_); refine goesL_ (some 13) rfl rfl Try.func20 (by kernel_rfl) rfl #[.int .i64 a0, .slice A1 l1.length c1, .int .i64 120] rfl (by (try simp only [List.map_toArray, List.map_cons, List.map_nil]); first | done | rfl | (simp only [List.length_drop, List.length_take]; rfl)) ?_; (with_reducible refine (tenetlaw02_heavy.calls k a0 _ _ l1 120 true _ ?side1 ?side2 A6.out).mono ?_); (case side1 => repeat (first | exact (Kd.C_below HR1.out HB.out) | (with_reducible refine Kd.C_alloc ?_ _) | (with_reducible refine Kd.C_drewN ?_ _) | (with_reducible refine Kd.C_drew ?_))); (case side2 => exact HC1.out); rintro e w' ⟨rfl, ⟨nd, rfl⟩⟩; refine ⟨_, rfl, ?_⟩))
      go_meet
      case rel => exact ⟨_, (true), (by first | rfl | (simp; done) | (simp [*]; done)), H', ⟨by first | omega | exact Nat.le_refl _⟩, ⟨by (with_reducible repeat (first | refine blk_drewN ?_ _ | refine blk_drew ?_ | refine blk_alloc ?_ _)); exact BK651.out⟩, ⟨by repeat (first | (with_reducible first | exact HB.out | apply below_alloc | apply pw_below_drewN | apply below_drew1 | refine below_set ?_ GE651.out) | exact HB.out)⟩⟩
    · replace c7 := Bool.eq_false_iff.mpr c7
      subst c7
      have H1 : ((tenetlaw02_heavy.f k a0 l2_1 120).bind fun t653 => (if t653 = true then (tenetlaw02_GraphExtends.j0 k a0 l1 true l2_0 l2_1) else (tenetlaw02_GraphExtends.j0 k a0 l1 (decide ((l2_0.length : Int) > 1000)) l2_0 l2_1))) = some r := by rw [if_neg (show ¬ (false = true) by decide)] at H; exact H
      clear H
      have H := H1
      clear H1
      replace H := Option.bind_eq_some_iff.mp H
      obtain ⟨t653, A80, H⟩ := H
      replace H : (if t653 = true then (tenetlaw02_GraphExtends.j0 k a0 l1 true l2_0 l2_1) else (tenetlaw02_GraphExtends.j0 k a0 l1 (decide ((l2_0.length : Int) > 1000)) l2_0 l2_1)) = some r := H
      have A8 := Aside0.mk A80
      clear A80
      by_cases c9 : t653 = true
      · subst c9
        have H1 : (tenetlaw02_GraphExtends.j0 k a0 l1 true l2_0 l2_1) = some r := by rw [if_pos rfl] at H; exact H
        clear H
        have H := H1
        clear H1
        have H' := Aside0.mk H
        clear H
        go_wp2_with (first | ((with_reducible refine gate_callee (f := 20) rfl ?_); refine goesL_ (some 13) rfl rfl Try.func20 (by kernel_rfl) rfl #[.int .i64 a0, .slice A1 l1.length c1, .int .i64 120] rfl (by (try simp only [List.map_toArray, List.map_cons, List.map_nil]); first | done | rfl | (simp only [List.length_drop, List.length_take]; rfl)) ?_; (with_reducible refine (tenetlaw02_heavy.calls k a0 _ _ l1 120 false _ ?side1 ?side2 A6.out).mono ?_); (case side1 => repeat (first | exact (Kd.C_below HR1.out HB.out) | (with_reducible refine Kd.C_alloc ?_ _) | (with_reducible refine Kd.C_drewN ?_ _) | (with_reducible refine Kd.C_drew ?_))); (case side2 => exact HC1.out); rintro e w' ⟨rfl, ⟨nd, rfl⟩⟩; refine ⟨_, rfl, ?_⟩; have hcz10_0 : w5.cell? ⟨gb651, 0, none⟩ = some (.slice A2_0 l2_0.length c2_0) := (blk_cell BK651.out 0).trans rfl; have hcz10_1 : w5.cell? ⟨gb651, 1, none⟩ = some (.slice A2_1 l2_1.length c2_1) := (blk_cell BK651.out 1).trans rfl; have hfz10_0 := blk_frozen BK651.out 0; have hfz10_1 := blk_frozen BK651.out 1) | (go_at_call 20; (with_reducible refine (tenetlaw02_heavy.calls k a0 _ _ l2_1 120 true _ ?side1 ?side2 A8.out).mono ?_); (case side1 => repeat (first | exact (Kd.C_below HR2_1.out (by repeat (first | (with_reducible first | exact HB.out | apply below_alloc | apply pw_below_drewN | apply below_drew1 | refine below_set ?_ GE651.out) | exact HB.out))) | (with_reducible refine Kd.C_alloc ?_ _) | (with_reducible refine Kd.C_drewN ?_ _) | (with_reducible refine Kd.C_drew ?_))); (case side2 => exact HC2_1.out); rintro e w' ⟨rfl, ⟨nd, rfl⟩⟩))
        go_meet
        case rel => exact ⟨_, (true), (by first | rfl | (simp; done) | (simp [*]; done)), H', ⟨by first | omega | exact Nat.le_refl _⟩, ⟨by (with_reducible repeat (first | refine blk_drewN ?_ _ | refine blk_drew ?_ | refine blk_alloc ?_ _)); exact BK651.out⟩, ⟨by repeat (first | (with_reducible first | exact HB.out | apply below_alloc | apply pw_below_drewN | apply below_drew1 | refine below_set ?_ GE651.out) | exact HB.out)⟩⟩
      · replace c9 := Bool.eq_false_iff.mpr c9
        subst c9
        have H1 : (tenetlaw02_GraphExtends.j0 k a0 l1 (decide ((l2_0.length : Int) > 1000)) l2_0 l2_1) = some r := by rw [if_neg (show ¬ (false = true) by decide)] at H; exact H
        clear H
        have H := H1
        clear H1
        have H' := Aside0.mk H
        clear H
        go_wp2_with (first | ((with_reducible refine gate_callee (f := 20) rfl ?_); refine goesL_ (some 13) rfl rfl Try.func20 (by kernel_rfl) rfl #[.int .i64 a0, .slice A1 l1.length c1, .int .i64 120] rfl (by (try simp only [List.map_toArray, List.map_cons, List.map_nil]); first | done | rfl | (simp only [List.length_drop, List.length_take]; rfl)) ?_; (with_reducible refine (tenetlaw02_heavy.calls k a0 _ _ l1 120 false _ ?side1 ?side2 A6.out).mono ?_); (case side1 => repeat (first | exact (Kd.C_below HR1.out HB.out) | (with_reducible refine Kd.C_alloc ?_ _) | (with_reducible refine Kd.C_drewN ?_ _) | (with_reducible refine Kd.C_drew ?_))); (case side2 => exact HC1.out); rintro e w' ⟨rfl, ⟨nd, rfl⟩⟩; refine ⟨_, rfl, ?_⟩; have hcz11_0 : w5.cell? ⟨gb651, 0, none⟩ = some (.slice A2_0 l2_0.length c2_0) := (blk_cell BK651.out 0).trans rfl; have hcz11_1 : w5.cell? ⟨gb651, 1, none⟩ = some (.slice A2_1 l2_1.length c2_1) := (blk_cell BK651.out 1).trans rfl; have hfz11_0 := blk_frozen BK651.out 0; have hfz11_1 := blk_frozen BK651.out 1) | (go_at_call 20; (with_reducible refine (tenetlaw02_heavy.calls k a0 _ _ l2_1 120 false _ ?side1 ?side2 A8.out).mono ?_); (case side1 => repeat (first | exact (Kd.C_below HR2_1.out (by repeat (first | (with_reducible first | exact HB.out | apply below_alloc | apply pw_below_drewN | apply below_drew1 | refine below_set ?_ GE651.out) | exact HB.out))) | (with_reducible refine Kd.C_alloc ?_ _) | (with_reducible refine Kd.C_drewN ?_ _) | (with_reducible refine Kd.C_drew ?_))); (case side2 => exact HC2_1.out); rintro e w' ⟨rfl, ⟨nd, rfl⟩⟩))
        go_meet
        case rel => exact ⟨_, (decide ((l2_0.length : Int) > 1000)), (by first | rfl | (simp; done) | (simp [*]; done)), H', ⟨by first | omega | exact Nat.le_refl _⟩, ⟨by (with_reducible repeat (first | refine blk_drewN ?_ _ | refine blk_drew ?_ | refine blk_alloc ?_ _)); exact BK651.out⟩, ⟨by repeat (first | (with_reducible first | exact HB.out | apply below_alloc | apply pw_below_drewN | apply below_drew1 | refine below_set ?_ GE651.out) | exact HB.out)⟩⟩
  case rest =>
    clear HC4
    try clear c1
    try clear c2
    try clear p2
    try clear c7
    try clear c9
    try clear hcz10_0
    try clear hcz10_1
    try clear hcz11_0
    try clear hcz11_1
    try clear hfz10_0
    try clear hfz10_1
    try clear hfz11_0
    try clear hfz11_1
    obtain ⟨kq, x25_3, rfl, HA, HJ3, BK651, HB⟩ := hcut
    cases kq with
    | zero => exact absurd HA.out (by simp [tenetlaw02_GraphExtends.j0])
    | succ kj3 =>
      have H := HA.out
      clear HA
      simp only [tenetlaw02_GraphExtends.j0] at H
      by_cases c12 : x25_3 = true
      · subst c12
        have H1 : ((tenetlaw02_awake.f kj3).bind fun t654 => (some t654)) = some r := by rw [if_pos rfl] at H; exact H
        clear H
        have H := H1
        clear H1
        replace H := Option.bind_eq_some_iff.mp H
        obtain ⟨t654, A130, H⟩ := H
        replace H : (some t654) = some r := H
        have A13 := Aside0.mk A130
        clear A130
        obtain rfl := Option.some.inj H
        go_wp2_with (first | ((with_reducible refine gate_callee (f := 21) rfl ?_); refine goesL_ (some 26) rfl rfl Try.func21 (by kernel_rfl) rfl #[] rfl (by (try simp only [List.map_toArray, List.map_cons, List.map_nil]); first | done | rfl | (simp only [List.length_drop, List.length_take]; rfl)) ?_; (with_reducible refine (tenetlaw02_awake.calls kj3  t654 _ A13.out).mono ?_); rintro e w14 ⟨rfl, hb⟩; refine ⟨_, rfl, ?_⟩; have n0_ := Aside0.mk (blk_below (g := gb651) (o := .cells #[.slice A2_0 l2_0.length c2_0, .slice A2_1 l2_1.length c2_1] 60 (0, 0)) (by (with_reducible repeat (first | refine blk_drewN ?_ _ | refine blk_drew ?_ | refine blk_alloc ?_ _)); exact BK651.out) hb); have n1_ := Aside0.mk (below_step (by repeat (first | (with_reducible first | exact HB.out | apply below_alloc | apply pw_below_drewN | apply below_drew1 | refine below_set ?_ GE651.out) | exact HB.out)) hb); clear BK651; clear HB; have BK651 := n0_; have HB := n1_; clear n0_ n1_; (try clear hb); (try clear hb2); (try clear hk); (try clear hi)))
        go_ret
        exact ⟨by first | rfl | (simp [errW_none, errW_some] <;> rfl) | (simp [*, errW_none, errW_some] <;> rfl), by repeat (first | (with_reducible first | exact HB.out | apply below_alloc | apply pw_below_drewN | apply below_drew1 | refine below_set ?_ GE651.out) | exact HB.out)⟩
      · replace c12 := Bool.eq_false_iff.mpr c12
        subst c12
        have H1 : ((graph_Extend.f kj3 a0 l1 l2_0 l2_1).bind fun bt655 => ((tenetref02_Extend.f kj3 a0 l1 l2_0 l2_1).bind fun bt659 => (if bt655.2 = bt659.2 then ((tenetref00_EqInts.f kj3 bt655.1 bt659.1).bind fun t663 => (if t663 = true then ((tenetlaw02_awake.f kj3).bind fun t664 => (some t664)) else (some false))) else (some false)))) = some r := by rw [if_neg (show ¬ (false = true) by decide)] at H; exact H
        clear H
        have H := H1
        clear H1
        replace H := Option.bind_eq_some_iff.mp H
        obtain ⟨⟨t655, t656⟩, A150, H⟩ := H
        replace H : ((tenetref02_Extend.f kj3 a0 l1 l2_0 l2_1).bind fun bt659 => (if t656 = bt659.2 then ((tenetref00_EqInts.f kj3 t655 bt659.1).bind fun t663 => (if t663 = true then ((tenetlaw02_awake.f kj3).bind fun t664 => (some t664)) else (some false))) else (some false))) = some r := H
        have A15 := Aside0.mk A150
        clear A150
        replace H := Option.bind_eq_some_iff.mp H
        obtain ⟨⟨t659, t662⟩, A160, H⟩ := H
        replace H : (if t656 = t662 then ((tenetref00_EqInts.f kj3 t655 t659).bind fun t663 => (if t663 = true then ((tenetlaw02_awake.f kj3).bind fun t664 => (some t664)) else (some false))) else (some false)) = some r := H
        have A16 := Aside0.mk A160
        clear A160
        by_cases c17 : t656 = t662
        · rw [if_pos c17] at H
          have c17b0 : (t656 == t662) = true := beq_iff_eq.mpr c17
          have c17b1 : (t656 != t662) = false := bne_eq_false_iff_eq.mpr c17
          clear c17
          replace H := Option.bind_eq_some_iff.mp H
          obtain ⟨t663, A180, H⟩ := H
          replace H : (if t663 = true then ((tenetlaw02_awake.f kj3).bind fun t664 => (some t664)) else (some false)) = some r := H
          have A18 := Aside0.mk A180
          clear A180
          by_cases c19 : t663 = true
          · subst c19
            have H1 : ((tenetlaw02_awake.f kj3).bind fun t664 => (some t664)) = some r := by rw [if_pos rfl] at H; exact H
            clear H
            have H := H1
            clear H1
            replace H := Option.bind_eq_some_iff.mp H
            obtain ⟨t664, A200, H⟩ := H
            replace H : (some t664) = some r := H
            have A20 := Aside0.mk A200
            clear A200
            obtain rfl := Option.some.inj H
            have hcz21_0 : wc.cell? ⟨gb651, 0, none⟩ = some (.slice A2_0 l2_0.length c2_0) := (blk_cell BK651.out 0).trans rfl
            have hcz21_1 : wc.cell? ⟨gb651, 1, none⟩ = some (.slice A2_1 l2_1.length c2_1) := (blk_cell BK651.out 1).trans rfl
            have hfz21_0 := blk_frozen BK651.out 0
            have hfz21_1 := blk_frozen BK651.out 1
            go_wp2_with (first | ((with_reducible refine gate_callee (f := 42) rfl ?_); refine goesL_ (some 34) rfl rfl Try.func42 (by kernel_rfl) rfl #[.int .i64 a0, .slice A1 l1.length c1, .slice A2_0 l2_0.length c2_0, .slice A2_1 l2_1.length c2_1] rfl (by (try simp only [List.map_toArray, List.map_cons, List.map_nil]); first | done | rfl | (simp only [List.length_drop, List.length_take]; rfl)) ?_; (with_reducible refine (graph_Extend.calls kj3 a0 _ _ l1 _ _ l2_0 _ _ l2_1 t655 t656 _ ?side1 ?side2 ?side3 ?side4 ?side5 ?side6 A15.out).mono ?_); (case side1 => repeat (first | exact (Kd.C_below HR1.out HB.out) | (with_reducible refine Kd.C_alloc ?_ _) | (with_reducible refine Kd.C_drewN ?_ _) | (with_reducible refine Kd.C_drew ?_))); (case side2 => exact HC1.out); (case side3 => repeat (first | exact (Kd.C_below HR2_0.out HB.out) | (with_reducible refine Kd.C_alloc ?_ _) | (with_reducible refine Kd.C_drewN ?_ _) | (with_reducible refine Kd.C_drew ?_))); (case side4 => exact HC2_0.out); (case side5 => repeat (first | exact (Kd.C_below HR2_1.out HB.out) | (with_reducible refine Kd.C_alloc ?_ _) | (with_reducible refine Kd.C_drewN ?_ _) | (with_reducible refine Kd.C_drew ?_))); (case side6 => exact HC2_1.out); rintro e w22 ⟨v657, rfl, ho0, hb⟩; refine ⟨_, rfl, ?_⟩; have n0_ := Aside0.mk (Kd.R_lower ho0 (below_size (by repeat (first | (with_reducible first | exact HB.out | apply below_alloc | apply pw_below_drewN | apply below_drew1 | refine below_set ?_ GE651.out) | exact HB.out)))); have n1_ := Aside0.mk (blk_below (g := gb651) (o := .cells #[.slice A2_0 l2_0.length c2_0, .slice A2_1 l2_1.length c2_1] 60 (0, 0)) (by (with_reducible repeat (first | refine blk_drewN ?_ _ | refine blk_drew ?_ | refine blk_alloc ?_ _)); exact BK651.out) hb); have n2_ := Aside0.mk (below_step (by repeat (first | (with_reducible first | exact HB.out | apply below_alloc | apply pw_below_drewN | apply below_drew1 | refine below_set ?_ GE651.out) | exact HB.out)) hb); clear BK651; clear HB; have HO658 := n0_; have BK651 := n1_; have HB := n2_; clear n0_ n1_ n2_; (try clear hb); (try clear hb2); (try clear hk); (try clear hi); (try clear ho0); have hcz23_0 : w22.cell? ⟨gb651, 0, none⟩ = some (.slice A2_0 l2_0.length c2_0) := (blk_cell BK651.out 0).trans rfl; have hcz23_1 : w22.cell? ⟨gb651, 1, none⟩ = some (.slice A2_1 l2_1.length c2_1) := (blk_cell BK651.out 1).trans rfl; have hfz23_0 := blk_frozen BK651.out 0; have hfz23_1 := blk_frozen BK651.out 1) | ((with_reducible refine gate_callee (f := 43) rfl ?_); refine goesL_ (some 44) rfl rfl Try.func43 (by kernel_rfl) rfl #[.int .i64 a0, .slice A1 l1.length c1, .slice A2_0 l2_0.length c2_0, .slice A2_1 l2_1.length c2_1] rfl (by (try simp only [List.map_toArray, List.map_cons, List.map_nil]); first | done | rfl | (simp only [List.length_drop, List.length_take]; rfl)) ?_; (with_reducible refine (tenetref02_Extend.calls kj3 a0 (fun k_ => k_ < w.heap.size) _ _ l1 _ _ l2_0 (fun k_ => k_ < w.heap.size) _ _ l2_1 t659 t662 _ ?side1 ?side2 ?side3 ?side4 A16.out).mono ?_); (case side1 => exact Kd.V_mk HC1.out (Kd.F_below (Kd.C_F k44_heap HR1.out) (by repeat (first | (with_reducible first | exact HB.out | apply below_alloc | apply pw_below_drewN | apply below_drew1 | refine below_set ?_ GE651.out) | exact HB.out)))); (case side2 => repeat (first | exact (Kd.C_below HR2_0.out HB.out) | (with_reducible refine Kd.C_alloc ?_ _) | (with_reducible refine Kd.C_drewN ?_ _) | (with_reducible refine Kd.C_drew ?_))); (case side3 => exact HC2_0.out); (case side4 => exact Kd.V_mk HC2_1.out (Kd.F_below (Kd.C_F k44_heap HR2_1.out) (by repeat (first | (with_reducible first | exact HB.out | apply below_alloc | apply pw_below_drewN | apply below_drew1 | refine below_set ?_ GE651.out) | exact HB.out)))); rintro e w24 ⟨v660, rfl, ho0, hb⟩; refine ⟨_, rfl, ?_⟩; have n0_ := Aside0.mk (Kd.R_elder' (by (with_reducible repeat (first | apply Kd.R_alloc | apply Kd.R_drewN | apply Kd.R_drew)); exact HO658.out) (Kd.R_base ho0) hb); have n1_ := Aside0.mk (Kd.R_lower (Kd.R_new' (Kd.R_mono (ok' := fun k_ => True) ho0 (fun _ hk_ => trivial)) (Kd.R_lt (by (with_reducible repeat (first | apply Kd.R_alloc | apply Kd.R_drewN | apply Kd.R_drew)); exact HO658.out))) (below_size (by repeat (first | (with_reducible first | exact HB.out | apply below_alloc | apply pw_below_drewN | apply below_drew1 | refine below_set ?_ GE651.out) | exact HB.out)))); have n2_ := Aside0.mk (blk_below (g := gb651) (o := .cells #[.slice A2_0 l2_0.length c2_0, .slice A2_1 l2_1.length c2_1] 60 (0, 0)) (by (with_reducible repeat (first | refine blk_drewN ?_ _ | refine blk_drew ?_ | refine blk_alloc ?_ _)); exact BK651.out) hb); have n3_ := Aside0.mk (below_step (by repeat (first | (with_reducible first | exact HB.out | apply below_alloc | apply pw_below_drewN | apply below_drew1 | refine below_set ?_ GE651.out) | exact HB.out)) hb); clear HO658; clear BK651; clear HB; have HO658 := n0_; have HO661 := n1_; have BK651 := n2_; have HB := n3_; clear n0_ n1_ n2_ n3_; (try clear hb); (try clear hb2); (try clear hk); (try clear hi); (try clear ho0); obtain ⟨Ao25, co25, eo25⟩ := Kd.R_slice HO658.out; subst eo25; obtain ⟨Ao26, co26, eo26⟩ := Kd.R_slice HO661.out; subst eo26) | (go_at_call 26; (with_reducible refine (tenetref00_EqInts.calls kj3 _ _ t655 _ _ t659 true _ ?side1 ?side2 ?side3 ?side4 A18.out).mono ?_); (case side1 => repeat (first | exact (Kd.R_reads' HO658.out).2.2 | (with_reducible refine Kd.C_alloc ?_ _) | (with_reducible refine Kd.C_drewN ?_ _) | (with_reducible refine Kd.C_drew ?_))); (case side2 => exact (Kd.R_reads' HO658.out).2.1); (case side3 => repeat (first | exact (Kd.R_reads' HO661.out).2.2 | (with_reducible refine Kd.C_alloc ?_ _) | (with_reducible refine Kd.C_drewN ?_ _) | (with_reducible refine Kd.C_drew ?_))); (case side4 => exact (Kd.R_reads' HO661.out).2.1); rintro e w' ⟨rfl, ⟨nd, rfl⟩⟩) | (go_at_call 21; (with_reducible refine (tenetlaw02_awake.calls kj3  t664 _ A20.out).mono ?_); rintro e w27 ⟨rfl, hb⟩; have n0_ := Aside0.mk (Kd.R_below (by (with_reducible repeat (first | apply Kd.R_alloc | apply Kd.R_drewN | apply Kd.R_drew)); exact HO658.out) hb); have n1_ := Aside0.mk (Kd.R_below (by (with_reducible repeat (first | apply Kd.R_alloc | apply Kd.R_drewN | apply Kd.R_drew)); exact HO661.out) hb); have n2_ := Aside0.mk (blk_below (g := gb651) (o := .cells #[.slice A2_0 l2_0.length c2_0, .slice A2_1 l2_1.length c2_1] 60 (0, 0)) (by (with_reducible repeat (first | refine blk_drewN ?_ _ | refine blk_drew ?_ | refine blk_alloc ?_ _)); exact BK651.out) hb); have n3_ := Aside0.mk (below_step (by repeat (first | (with_reducible first | exact HB.out | apply below_alloc | apply pw_below_drewN | apply below_drew1 | refine below_set ?_ GE651.out) | exact HB.out)) hb); clear HO658; clear HO661; clear BK651; clear HB; have HO658 := n0_; have HO661 := n1_; have BK651 := n2_; have HB := n3_; clear n0_ n1_ n2_ n3_; (try clear hb); (try clear hb2); (try clear hk); (try clear hi)))
            go_ret
            exact ⟨by first | rfl | (simp [errW_none, errW_some] <;> rfl) | (simp [*, errW_none, errW_some] <;> rfl), by repeat (first | (with_reducible first | exact HB.out | apply below_alloc | apply pw_below_drewN | apply below_drew1 | refine below_set ?_ GE651.out) | exact HB.out)⟩
          · replace c19 := Bool.eq_false_iff.mpr c19
            subst c19
            have H1 : (some false) = some r := by rw [if_neg (show ¬ (false = true) by decide)] at H; exact H
            clear H
            have H := H1
            clear H1
            obtain rfl := Option.some.inj H
            have hcz28_0 : wc.cell? ⟨gb651, 0, none⟩ = some (.slice A2_0 l2_0.length c2_0) := (blk_cell BK651.out 0).trans rfl
            have hcz28_1 : wc.cell? ⟨gb651, 1, none⟩ = some (.slice A2_1 l2_1.length c2_1) := (blk_cell BK651.out 1).trans rfl
            have hfz28_0 := blk_frozen BK651.out 0
            have hfz28_1 := blk_frozen BK651.out 1
            go_wp2_with (first | ((with_reducible refine gate_callee (f := 42) rfl ?_); refine goesL_ (some 34) rfl rfl Try.func42 (by kernel_rfl) rfl #[.int .i64 a0, .slice A1 l1.length c1, .slice A2_0 l2_0.length c2_0, .slice A2_1 l2_1.length c2_1] rfl (by (try simp only [List.map_toArray, List.map_cons, List.map_nil]); first | done | rfl | (simp only [List.length_drop, List.length_take]; rfl)) ?_; (with_reducible refine (graph_Extend.calls kj3 a0 _ _ l1 _ _ l2_0 _ _ l2_1 t655 t656 _ ?side1 ?side2 ?side3 ?side4 ?side5 ?side6 A15.out).mono ?_); (case side1 => repeat (first | exact (Kd.C_below HR1.out HB.out) | (with_reducible refine Kd.C_alloc ?_ _) | (with_reducible refine Kd.C_drewN ?_ _) | (with_reducible refine Kd.C_drew ?_))); (case side2 => exact HC1.out); (case side3 => repeat (first | exact (Kd.C_below HR2_0.out HB.out) | (with_reducible refine Kd.C_alloc ?_ _) | (with_reducible refine Kd.C_drewN ?_ _) | (with_reducible refine Kd.C_drew ?_))); (case side4 => exact HC2_0.out); (case side5 => repeat (first | exact (Kd.C_below HR2_1.out HB.out) | (with_reducible refine Kd.C_alloc ?_ _) | (with_reducible refine Kd.C_drewN ?_ _) | (with_reducible refine Kd.C_drew ?_))); (case side6 => exact HC2_1.out); rintro e w29 ⟨v657, rfl, ho0, hb⟩; refine ⟨_, rfl, ?_⟩; have n0_ := Aside0.mk (Kd.R_lower ho0 (below_size (by repeat (first | (with_reducible first | exact HB.out | apply below_alloc | apply pw_below_drewN | apply below_drew1 | refine below_set ?_ GE651.out) | exact HB.out)))); have n1_ := Aside0.mk (blk_below (g := gb651) (o := .cells #[.slice A2_0 l2_0.length c2_0, .slice A2_1 l2_1.length c2_1] 60 (0, 0)) (by (with_reducible repeat (first | refine blk_drewN ?_ _ | refine blk_drew ?_ | refine blk_alloc ?_ _)); exact BK651.out) hb); have n2_ := Aside0.mk (below_step (by repeat (first | (with_reducible first | exact HB.out | apply below_alloc | apply pw_below_drewN | apply below_drew1 | refine below_set ?_ GE651.out) | exact HB.out)) hb); clear BK651; clear HB; have HO658 := n0_; have BK651 := n1_; have HB := n2_; clear n0_ n1_ n2_; (try clear hb); (try clear hb2); (try clear hk); (try clear hi); (try clear ho0); have hcz30_0 : w29.cell? ⟨gb651, 0, none⟩ = some (.slice A2_0 l2_0.length c2_0) := (blk_cell BK651.out 0).trans rfl; have hcz30_1 : w29.cell? ⟨gb651, 1, none⟩ = some (.slice A2_1 l2_1.length c2_1) := (blk_cell BK651.out 1).trans rfl; have hfz30_0 := blk_frozen BK651.out 0; have hfz30_1 := blk_frozen BK651.out 1) | ((with_reducible refine gate_callee (f := 43) rfl ?_); refine goesL_ (some 44) rfl rfl Try.func43 (by kernel_rfl) rfl #[.int .i64 a0, .slice A1 l1.length c1, .slice A2_0 l2_0.length c2_0, .slice A2_1 l2_1.length c2_1] rfl (by (try simp only [List.map_toArray, List.map_cons, List.map_nil]); first | done | rfl | (simp only [List.length_drop, List.length_take]; rfl)) ?_; (with_reducible refine (tenetref02_Extend.calls kj3 a0 (fun k_ => k_ < w.heap.size) _ _ l1 _ _ l2_0 (fun k_ => k_ < w.heap.size) _ _ l2_1 t659 t662 _ ?side1 ?side2 ?side3 ?side4 A16.out).mono ?_); (case side1 => exact Kd.V_mk HC1.out (Kd.F_below (Kd.C_F k44_heap HR1.out) (by repeat (first | (with_reducible first | exact HB.out | apply below_alloc | apply pw_below_drewN | apply below_drew1 | refine below_set ?_ GE651.out) | exact HB.out)))); (case side2 => repeat (first | exact (Kd.C_below HR2_0.out HB.out) | (with_reducible refine Kd.C_alloc ?_ _) | (with_reducible refine Kd.C_drewN ?_ _) | (with_reducible refine Kd.C_drew ?_))); (case side3 => exact HC2_0.out); (case side4 => exact Kd.V_mk HC2_1.out (Kd.F_below (Kd.C_F k44_heap HR2_1.out) (by repeat (first | (with_reducible first | exact HB.out | apply below_alloc | apply pw_below_drewN | apply below_drew1 | refine below_set ?_ GE651.out) | exact HB.out)))); rintro e w31 ⟨v660, rfl, ho0, hb⟩; refine ⟨_, rfl, ?_⟩; have n0_ := Aside0.mk (Kd.R_elder' (by (with_reducible repeat (first | apply Kd.R_alloc | apply Kd.R_drewN | apply Kd.R_drew)); exact HO658.out) (Kd.R_base ho0) hb); have n1_ := Aside0.mk (Kd.R_lower (Kd.R_new' (Kd.R_mono (ok' := fun k_ => True) ho0 (fun _ hk_ => trivial)) (Kd.R_lt (by (with_reducible repeat (first | apply Kd.R_alloc | apply Kd.R_drewN | apply Kd.R_drew)); exact HO658.out))) (below_size (by repeat (first | (with_reducible first | exact HB.out | apply below_alloc | apply pw_below_drewN | apply below_drew1 | refine below_set ?_ GE651.out) | exact HB.out)))); have n2_ := Aside0.mk (blk_below (g := gb651) (o := .cells #[.slice A2_0 l2_0.length c2_0, .slice A2_1 l2_1.length c2_1] 60 (0, 0)) (by (with_reducible repeat (first | refine blk_drewN ?_ _ | refine blk_drew ?_ | refine blk_alloc ?_ _)); exact BK651.out) hb); have n3_ := Aside0.mk (below_step (by repeat (first | (with_reducible first | exact HB.out | apply below_alloc | apply pw_below_drewN | apply below_drew1 | refine below_set ?_ GE651.out) | exact HB.out)) hb); clear HO658; clear BK651; clear HB; have HO658 := n0_; have HO661 := n1_; have BK651 := n2_; have HB := n3_; clear n0_ n1_ n2_ n3_; (try clear hb); (try clear hb2); (try clear hk); (try clear hi); (try clear ho0); obtain ⟨Ao32, co32, eo32⟩ := Kd.R_slice HO658.out; subst eo32; obtain ⟨Ao33, co33, eo33⟩ := Kd.R_slice HO661.out; subst eo33) | (go_at_call 26; (with_reducible refine (tenetref00_EqInts.calls kj3 _ _ t655 _ _ t659 false _ ?side1 ?side2 ?side3 ?side4 A18.out).mono ?_); (case side1 => repeat (first | exact (Kd.R_reads' HO658.out).2.2 | (with_reducible refine Kd.C_alloc ?_ _) | (with_reducible refine Kd.C_drewN ?_ _) | (with_reducible refine Kd.C_drew ?_))); (case side2 => exact (Kd.R_reads' HO658.out).2.1); (case side3 => repeat (first | exact (Kd.R_reads' HO661.out).2.2 | (with_reducible refine Kd.C_alloc ?_ _) | (with_reducible refine Kd.C_drewN ?_ _) | (with_reducible refine Kd.C_drew ?_))); (case side4 => exact (Kd.R_reads' HO661.out).2.1); rintro e w' ⟨rfl, ⟨nd, rfl⟩⟩))
            go_ret
            exact ⟨by first | rfl | (simp [errW_none, errW_some] <;> rfl) | (simp [*, errW_none, errW_some] <;> rfl), by repeat (first | (with_reducible first | exact HB.out | apply below_alloc | apply pw_below_drewN | apply below_drew1 | refine below_set ?_ GE651.out) | exact HB.out)⟩
        · rw [if_neg c17] at H
          have c17b0 : (t656 == t662) = false := beq_eq_false_iff_ne.mpr c17
          have c17b1 : (t656 != t662) = true := bne_iff_ne.mpr c17
          obtain rfl := Option.some.inj H
          have hcz34_0 : wc.cell? ⟨gb651, 0, none⟩ = some (.slice A2_0 l2_0.length c2_0) := (blk_cell BK651.out 0).trans rfl
          have hcz34_1 : wc.cell? ⟨gb651, 1, none⟩ = some (.slice A2_1 l2_1.length c2_1) := (blk_cell BK651.out 1).trans rfl
          have hfz34_0 := blk_frozen BK651.out 0
          have hfz34_1 := blk_frozen BK651.out 1
          go_wp2_with (first | ((with_reducible refine gate_callee (f := 42) rfl ?_); refine goesL_ (some 34) rfl rfl Try.func42 (by kernel_rfl) rfl #[.int .i64 a0, .slice A1 l1.length c1, .slice A2_0 l2_0.length c2_0, .slice A2_1 l2_1.length c2_1] rfl (by (try simp only [List.map_toArray, List.map_cons, List.map_nil]); first | done | rfl | (simp only [List.length_drop, List.length_take]; rfl)) ?_; (with_reducible refine (graph_Extend.calls kj3 a0 _ _ l1 _ _ l2_0 _ _ l2_1 t655 t656 _ ?side1 ?side2 ?side3 ?side4 ?side5 ?side6 A15.out).mono ?_); (case side1 => repeat (first | exact (Kd.C_below HR1.out HB.out) | (with_reducible refine Kd.C_alloc ?_ _) | (with_reducible refine Kd.C_drewN ?_ _) | (with_reducible refine Kd.C_drew ?_))); (case side2 => exact HC1.out); (case side3 => repeat (first | exact (Kd.C_below HR2_0.out HB.out) | (with_reducible refine Kd.C_alloc ?_ _) | (with_reducible refine Kd.C_drewN ?_ _) | (with_reducible refine Kd.C_drew ?_))); (case side4 => exact HC2_0.out); (case side5 => repeat (first | exact (Kd.C_below HR2_1.out HB.out) | (with_reducible refine Kd.C_alloc ?_ _) | (with_reducible refine Kd.C_drewN ?_ _) | (with_reducible refine Kd.C_drew ?_))); (case side6 => exact HC2_1.out); rintro e w35 ⟨v657, rfl, ho0, hb⟩; refine ⟨_, rfl, ?_⟩; have n0_ := Aside0.mk (Kd.R_lower ho0 (below_size (by repeat (first | (with_reducible first | exact HB.out | apply below_alloc | apply pw_below_drewN | apply below_drew1 | refine below_set ?_ GE651.out) | exact HB.out)))); have n1_ := Aside0.mk (blk_below (g := gb651) (o := .cells #[.slice A2_0 l2_0.length c2_0, .slice A2_1 l2_1.length c2_1] 60 (0, 0)) (by (with_reducible repeat (first | refine blk_drewN ?_ _ | refine blk_drew ?_ | refine blk_alloc ?_ _)); exact BK651.out) hb); have n2_ := Aside0.mk (below_step (by repeat (first | (with_reducible first | exact HB.out | apply below_alloc | apply pw_below_drewN | apply below_drew1 | refine below_set ?_ GE651.out) | exact HB.out)) hb); clear BK651; clear HB; have HO658 := n0_; have BK651 := n1_; have HB := n2_; clear n0_ n1_ n2_; (try clear hb); (try clear hb2); (try clear hk); (try clear hi); (try clear ho0); have hcz36_0 : w35.cell? ⟨gb651, 0, none⟩ = some (.slice A2_0 l2_0.length c2_0) := (blk_cell BK651.out 0).trans rfl; have hcz36_1 : w35.cell? ⟨gb651, 1, none⟩ = some (.slice A2_1 l2_1.length c2_1) := (blk_cell BK651.out 1).trans rfl; have hfz36_0 := blk_frozen BK651.out 0; have hfz36_1 := blk_frozen BK651.out 1) | ((with_reducible refine gate_callee (f := 43) rfl ?_); refine goesL_ (some 44) rfl rfl Try.func43 (by kernel_rfl) rfl #[.int .i64 a0, .slice A1 l1.length c1, .slice A2_0 l2_0.length c2_0, .slice A2_1 l2_1.length c2_1] rfl (by (try simp only [List.map_toArray, List.map_cons, List.map_nil]); first | done | rfl | (simp only [List.length_drop, List.length_take]; rfl)) ?_; (with_reducible refine (tenetref02_Extend.calls kj3 a0 (fun k_ => k_ < w.heap.size) _ _ l1 _ _ l2_0 (fun k_ => k_ < w.heap.size) _ _ l2_1 t659 t662 _ ?side1 ?side2 ?side3 ?side4 A16.out).mono ?_); (case side1 => exact Kd.V_mk HC1.out (Kd.F_below (Kd.C_F k44_heap HR1.out) (by repeat (first | (with_reducible first | exact HB.out | apply below_alloc | apply pw_below_drewN | apply below_drew1 | refine below_set ?_ GE651.out) | exact HB.out)))); (case side2 => repeat (first | exact (Kd.C_below HR2_0.out HB.out) | (with_reducible refine Kd.C_alloc ?_ _) | (with_reducible refine Kd.C_drewN ?_ _) | (with_reducible refine Kd.C_drew ?_))); (case side3 => exact HC2_0.out); (case side4 => exact Kd.V_mk HC2_1.out (Kd.F_below (Kd.C_F k44_heap HR2_1.out) (by repeat (first | (with_reducible first | exact HB.out | apply below_alloc | apply pw_below_drewN | apply below_drew1 | refine below_set ?_ GE651.out) | exact HB.out)))); rintro e w37 ⟨v660, rfl, ho0, hb⟩; refine ⟨_, rfl, ?_⟩; have n0_ := Aside0.mk (Kd.R_elder' (by (with_reducible repeat (first | apply Kd.R_alloc | apply Kd.R_drewN | apply Kd.R_drew)); exact HO658.out) (Kd.R_base ho0) hb); have n1_ := Aside0.mk (Kd.R_lower (Kd.R_new' (Kd.R_mono (ok' := fun k_ => True) ho0 (fun _ hk_ => trivial)) (Kd.R_lt (by (with_reducible repeat (first | apply Kd.R_alloc | apply Kd.R_drewN | apply Kd.R_drew)); exact HO658.out))) (below_size (by repeat (first | (with_reducible first | exact HB.out | apply below_alloc | apply pw_below_drewN | apply below_drew1 | refine below_set ?_ GE651.out) | exact HB.out)))); have n2_ := Aside0.mk (blk_below (g := gb651) (o := .cells #[.slice A2_0 l2_0.length c2_0, .slice A2_1 l2_1.length c2_1] 60 (0, 0)) (by (with_reducible repeat (first | refine blk_drewN ?_ _ | refine blk_drew ?_ | refine blk_alloc ?_ _)); exact BK651.out) hb); have n3_ := Aside0.mk (below_step (by repeat (first | (with_reducible first | exact HB.out | apply below_alloc | apply pw_below_drewN | apply below_drew1 | refine below_set ?_ GE651.out) | exact HB.out)) hb); clear HO658; clear BK651; clear HB; have HO658 := n0_; have HO661 := n1_; have BK651 := n2_; have HB := n3_; clear n0_ n1_ n2_ n3_; (try clear hb); (try clear hb2); (try clear hk); (try clear hi); (try clear ho0)))
          go_ret
          exact ⟨by first | rfl | (simp [errW_none, errW_some] <;> rfl) | (simp [*, errW_none, errW_some] <;> rfl), by repeat (first | (with_reducible first | exact HB.out | apply below_alloc | apply pw_below_drewN | apply below_drew1 | refine below_set ?_ GE651.out) | exact HB.out)⟩

end Go.Proofs.Ytegejpcglabhbaa.G
