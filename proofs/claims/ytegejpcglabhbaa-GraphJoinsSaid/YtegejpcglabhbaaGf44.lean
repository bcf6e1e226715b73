-- Made by a program of this claim's author out of the translation (a patched run of the kit's print).
import Derived.Test.YtegejpcglabhbaaG0
import Derived.Test.YtegejpcglabhbaaGf77
namespace Go.Proofs.Ytegejpcglabhbaa.G
open Go.RowKit Go.Proofs.YtegejpcglabhbaaW.PrintWords Go.Proofs.YtegejpcglabhbaaW.PrintLast Go.Proofs.YtegejpcglabhbaaW.PrintMore
attribute [local go_sem] max2_int min2_int max_two min_two max_three min_three max_four min_four   -- for this text's walks alone
set_option linter.unusedVariables false
set_option linter.unusedSimpArgs false

/-! ### tenetlaw02_turned: function 44 -/
mutual
def tenetlaw02_turned.l0 : Nat → Int → List (S44) → List (S44) → Int → Option ((List (S44)))
  | 0, _, _, _, _ => none
  | k + 1, x0, x1, x5, x6 => if x6 < (x1.length : Int) then (if 0 ≤ x6 then ((tenetref00_CopyLevel.f k ((rd_T44 x1 x6).f0.f0) ((rd_T44 x1 x6).f0.f1)).bind fun bt673 => ((tenetref00_CopyLevel.f k ((rd_T44 x1 x6).f1.f0) ((rd_T44 x1 x6).f1.f1)).bind fun bt678 => (tenetlaw02_turned.l1 k x0 x1 x5 x6 0 bt673.1 bt673.2 bt678.1 bt678.2))) else (none)) else (some x5)
def tenetlaw02_turned.l1 : Nat → Int → List (S44) → List (S44) → Int → Int → Int → List (S96) → Int → List (S96) → Option ((List (S44)))
  | 0, _, _, _, _, _, _, _, _, _ => none
  | k + 1, x0, x1, x5, x6, x8, x683000, x683001, x683002, x683003 => if x8 < (x683001.length : Int) then (if 0 ≤ x8 then (tenetlaw02_turned.l1 k x0 x1 x5 x6 (wrap64 (x8 + 1)) x683000 (x683001.set (x8 : Int).toNat (⟨wrap64 ((wrap64 (x0 - 1)) - ((rd_T96 x683001 x8).f0)), (rd_T96 x683001 x8).f1⟩ : S96)) x683002 x683003) else (none)) else (tenetlaw02_turned.l2 k x0 x1 x5 x6 0 x683000 x683001 x683002 x683003)
def tenetlaw02_turned.l2 : Nat → Int → List (S44) → List (S44) → Int → Int → Int → List (S96) → Int → List (S96) → Option ((List (S44)))
  | 0, _, _, _, _, _, _, _, _, _ => none
  | k + 1, x0, x1, x5, x6, x9, x683000, x683001, x683002, x683003 => if x9 < (x683003.length : Int) then (if 0 ≤ x9 then (tenetlaw02_turned.l2 k x0 x1 x5 x6 (wrap64 (x9 + 1)) x683000 x683001 x683002 (x683003.set (x9 : Int).toNat (⟨wrap64 ((wrap64 (x0 - 1)) - ((rd_T96 x683003 x9).f0)), (rd_T96 x683003 x9).f1⟩ : S96))) else (none)) else (if x5.length < 2199023255552 then (tenetlaw02_turned.l0 k x0 x1 (x5 ++ [(⟨(⟨x683000, x683001⟩ : S41), (⟨x683002, x683003⟩ : S41)⟩ : S44)]) (wrap64 (x6 + 1))) else (none))
end
def tenetlaw02_turned.f (k : Nat) (a0 : Int) (l1 : List (S44)) : Option ((List (S44))) := tenetlaw02_turned.l0 k a0 l1 ([] : List (S44)) 0
theorem tenetlaw02_turned.mono_l : ∀ k, (∀ y0 y1 y2 y3, LeO (tenetlaw02_turned.l0 k y0 y1 y2 y3) (tenetlaw02_turned.l0 (k + 1) y0 y1 y2 y3)) ∧ (∀ y0 y1 y2 y3 y4 y5 y6 y7 y8, LeO (tenetlaw02_turned.l1 k y0 y1 y2 y3 y4 y5 y6 y7 y8) (tenetlaw02_turned.l1 (k + 1) y0 y1 y2 y3 y4 y5 y6 y7 y8)) ∧ (∀ y0 y1 y2 y3 y4 y5 y6 y7 y8, LeO (tenetlaw02_turned.l2 k y0 y1 y2 y3 y4 y5 y6 y7 y8) (tenetlaw02_turned.l2 (k + 1) y0 y1 y2 y3 y4 y5 y6 y7 y8))
  | 0 => ⟨fun _ _ _ _ r h => by simp [tenetlaw02_turned.l0] at h, fun _ _ _ _ _ _ _ _ _ r h => by simp [tenetlaw02_turned.l1] at h, fun _ _ _ _ _ _ _ _ _ r h => by simp [tenetlaw02_turned.l2] at h⟩
  | k + 1 => by
    obtain ⟨ih0, ih1, ih2⟩ := tenetlaw02_turned.mono_l k
    refine ⟨?_, ?_, ?_⟩
    · intro y0 y1 y2 y3
      unfold tenetlaw02_turned.l0
      repeat' first
      | (with_reducible exact ih0 _ _ _ _)
      | (with_reducible exact ih1 _ _ _ _ _ _ _ _ _)
      | (with_reducible exact ih2 _ _ _ _ _ _ _ _ _)
      | (with_reducible exact tenetref00_CopyLevel.mono _ _ _)
      | (with_reducible exact LeO.refl _)
      | (with_reducible exact LeO.none _)
      | (with_reducible refine LeO.ite ?_ ?_)
      | (with_reducible refine LeO.bind ?_ (fun _ => ?_))
      | exact ih0 _ _ _ _
      | exact ih1 _ _ _ _ _ _ _ _ _
      | exact ih2 _ _ _ _ _ _ _ _ _
      | exact tenetref00_CopyLevel.mono _ _ _
      | exact LeO.none _
      | refine LeO.ite ?_ ?_
      | refine LeO.bind ?_ (fun _ => ?_)
    · intro y0 y1 y2 y3 y4 y5 y6 y7 y8
      unfold tenetlaw02_turned.l1
      repeat' first
      | (with_reducible exact ih0 _ _ _ _)
      | (with_reducible exact ih1 _ _ _ _ _ _ _ _ _)
      | (with_reducible exact ih2 _ _ _ _ _ _ _ _ _)
      | (with_reducible exact tenetref00_CopyLevel.mono _ _ _)
      | (with_reducible exact LeO.refl _)
      | (with_reducible exact LeO.none _)
      | (with_reducible refine LeO.ite ?_ ?_)
      | (with_reducible refine LeO.bind ?_ (fun _ => ?_))
      | exact ih0 _ _ _ _
      | exact ih1 _ _ _ _ _ _ _ _ _
      | exact ih2 _ _ _ _ _ _ _ _ _
      | exact tenetref00_CopyLevel.mono _ _ _
      | exact LeO.none _
      | refine LeO.ite ?_ ?_
      | refine LeO.bind ?_ (fun _ => ?_)
    · intro y0 y1 y2 y3 y4 y5 y6 y7 y8
      unfold tenetlaw02_turned.l2
      repeat' first
      | (with_reducible exact ih0 _ _ _ _)
      | (with_reducible exact ih1 _ _ _ _ _ _ _ _ _)
      | (with_reducible exact ih2 _ _ _ _ _ _ _ _ _)
      | (with_reducible exact tenetref00_CopyLevel.mono _ _ _)
      | (with_reducible exact LeO.refl _)
      | (with_reducible exact LeO.none _)
      | (with_reducible refine LeO.ite ?_ ?_)
      | (with_reducible refine LeO.bind ?_ (fun _ => ?_))
      | exact ih0 _ _ _ _
      | exact ih1 _ _ _ _ _ _ _ _ _
      | exact ih2 _ _ _ _ _ _ _ _ _
      | exact tenetref00_CopyLevel.mono _ _ _
      | exact LeO.none _
      | refine LeO.ite ?_ ?_
      | refine LeO.bind ?_ (fun _ => ?_)
theorem tenetlaw02_turned.mono : ∀ a0 a1 k, LeO (tenetlaw02_turned.f k a0 a1) (tenetlaw02_turned.f (k + 1) a0 a1) := by
  intro a0 a1 k
  obtain ⟨ih0, ih1, ih2⟩ := tenetlaw02_turned.mono_l k
  unfold tenetlaw02_turned.f
  repeat' first
      | (with_reducible exact ih0 _ _ _ _)
      | (with_reducible exact ih1 _ _ _ _ _ _ _ _ _)
      | (with_reducible exact ih2 _ _ _ _ _ _ _ _ _)
      | (with_reducible exact tenetref00_CopyLevel.mono _ _ _)
      | (with_reducible exact LeO.refl _)
      | (with_reducible exact LeO.none _)
      | (with_reducible refine LeO.ite ?_ ?_)
      | (with_reducible refine LeO.bind ?_ (fun _ => ?_))
      | exact ih0 _ _ _ _
      | exact ih1 _ _ _ _ _ _ _ _ _
      | exact ih2 _ _ _ _ _ _ _ _ _
      | exact tenetref00_CopyLevel.mono _ _ _
      | exact LeO.none _
      | refine LeO.ite ?_ ?_
      | refine LeO.bind ?_ (fun _ => ?_)
def tenetlaw02_turned.T5 : Bool × List (List Nat × List Nat) := (true, [([], []), ([], []), ([0, 1], [0, 1]), ([2], [2]), ([3], [3]), ([4], [4]), ([], []), ([], []), ([6, 7], [6, 7]), ([8], [8]), ([9], [9]), ([10, 5], [10]), ([5, 11], [5, 11]), ([], []), ([13, 12, 11, 0, 1, 2, 3, 4, 5, 6, 7, 8, 9, 10, 11, 12, 13], [12, 13])])
def tenetlaw02_turned.B5 : List Nat := [0, 0, 3, 7, 15, 31, 0, 0, 192, 448, 960, 2047, 4095, 0, 16383]
theorem tenetlaw02_turned.tab5 : rtab .any (opsOf Try.f44 5) = tenetlaw02_turned.T5 := by kernel_rfl
theorem tenetlaw02_turned.bits5 : waitsOk tenetlaw02_turned.T5.2 tenetlaw02_turned.B5 = true := by kernel_rfl
def tenetlaw02_turned.T9 : Bool × List (List Nat × List Nat) := (true, [([], []), ([0], [0]), ([1], [1]), ([], []), ([], []), ([4], [4]), ([], []), ([6], [6]), ([7], [7]), ([], []), ([8, 9], [8, 9]), ([10], [10]), ([11], [11]), ([5, 12], [5, 12]), ([2, 3, 0, 1, 2, 3, 4, 5, 6, 7, 8, 9, 10, 11, 12, 13], [2, 3]), ([14, 0, 1, 2, 3, 4, 5, 6, 7, 8, 9, 10, 11, 12, 13], [14]), ([15, 13, 0, 1, 2, 3, 4, 5, 6, 7, 8, 9, 10, 11, 12, 13], [13, 15])])
def tenetlaw02_turned.B9 : List Nat := [0, 1, 3, 0, 0, 16, 0, 64, 192, 0, 960, 1984, 4032, 8176, 16383, 32767, 65535]
theorem tenetlaw02_turned.tab9 : rtab .any (opsOf Try.f44 9) = tenetlaw02_turned.T9 := by kernel_rfl
theorem tenetlaw02_turned.bits9 : waitsOk tenetlaw02_turned.T9.2 tenetlaw02_turned.B9 = true := by kernel_rfl
def tenetlaw02_turned.T13 : Bool × List (List Nat × List Nat) := (true, [([], []), ([0], [0]), ([1], [1]), ([], []), ([], []), ([4], [4]), ([], []), ([6], [6]), ([7], [7]), ([], []), ([8, 9], [8, 9]), ([10], [10]), ([11], [11]), ([5, 12], [5, 12]), ([2, 3, 0, 1, 2, 3, 4, 5, 6, 7, 8, 9, 10, 11, 12, 13], [2, 3]), ([14, 0, 1, 2, 3, 4, 5, 6, 7, 8, 9, 10, 11, 12, 13], [14]), ([15, 13, 0, 1, 2, 3, 4, 5, 6, 7, 8, 9, 10, 11, 12, 13], [13, 15])])
def tenetlaw02_turned.B13 : List Nat := [0, 1, 3, 0, 0, 16, 0, 64, 192, 0, 960, 1984, 4032, 8176, 16383, 32767, 65535]
theorem tenetlaw02_turned.tab13 : rtab .any (opsOf Try.f44 13) = tenetlaw02_turned.T13 := by kernel_rfl
theorem tenetlaw02_turned.bits13 : waitsOk tenetlaw02_turned.T13.2 tenetlaw02_turned.B13 = true := by kernel_rfl
set_option maxHeartbeats 8000000 in
set_option maxRecDepth 100000 in
theorem tenetlaw02_turned.calls (k : Nat) (a0 : Int) (A1 : Option Addr) (c1 : Nat) (l1 : List (S44)) (r : List (S44)) (w : World) (hr1 : Kd.C k44 w A1 l1.length l1) (hc1 : l1.length ≤ c1) (h : tenetlaw02_turned.f k a0 l1 = some r) :
    Calls Try.prog 44 #[.int .i64 a0, .slice A1 l1.length c1] w fun e w' => ∃ v0_ : Value, e = .returned (v0_) ∧ Kd.S k44 44 w' w.heap.size (fun _ => True) v0_ r ∧ Below w.heap.size w w' := by
  have hu41 := Try.underlying41
  have hu44 := Try.underlying44
  have HR1 := Aside0.mk hr1
  have HC1 := Aside0.mk hc1
  clear hr1 hc1
  have HB := Aside0.mk (Below.refl w.heap.size w)
  have H : (tenetlaw02_turned.l0 k a0 l1 ([] : List (S44)) 0) = some r := h
  clear h
  have H' := Aside0.mk H
  clear H
  go_enter Try.func44, Try.ntmps44
  go_wp2
  go_loopg [5, 6] k (fun kq v5 v6 w' => ∃ (x5_1 : List (S44)) (x6_1 : Int), v6 = .int .i64 x6_1 ∧ Aside0 (tenetlaw02_turned.l0 kq a0 l1 x5_1 x6_1 = some r) ∧ Aside0 (kq ≤ k) ∧ Aside0 (Kd.S k44 44 w' w.heap.size (fun _ => True) v5 x5_1) ∧ Aside0 (Below w.heap.size w w'))
  case atStart => exact ⟨(([] : List (S44))), (0), (by first | rfl | (simp; done) | (simp [*]; done)), H', ⟨Nat.le_refl _⟩, ⟨by first | exact Kd.S_nil _ _ _ _ _ | exact Kd.N_nil _ _ _ _ _ | exact Kd.V_nil _ _ _ _ _ | exact Kd.Q_nil _ _ _ _ _ | exact Kd.R_nil _ _ _ _ _⟩, ⟨by repeat (first | (with_reducible first | exact HB.out | apply below_alloc | apply pw_below_drewN | apply below_drew1) | exact HB.out)⟩⟩
  case round =>
    clear H'
    try clear c1
    try clear p2
    obtain ⟨x5_1, x6_1, rfl, HA, HK1, HO_5, HB⟩ := hrel
    cases gk with
    | zero => exact absurd HA.out (by simp [tenetlaw02_turned.l0])
    | succ k1 =>
      have H := HA.out
      clear HA
      simp only [tenetlaw02_turned.l0] at H
      by_cases c3 : x6_1 < (l1.length : Int)
      · rw [if_pos c3] at H
        have c3b0 : decide (x6_1 < (l1.length : Int)) = true := decide_eq_true c3
        clear c3
        by_cases c4 : 0 ≤ x6_1
        · rw [if_pos c4] at H
          have c4b0 : decide (0 ≤ x6_1) = true := decide_eq_true c4
          clear c4
          replace H := Option.bind_eq_some_iff.mp H
          obtain ⟨⟨t673, t674⟩, A50, H⟩ := H
          replace H : ((tenetref00_CopyLevel.f k1 ((rd_T44 l1 x6_1).f1.f0) ((rd_T44 l1 x6_1).f1.f1)).bind fun bt678 => (tenetlaw02_turned.l1 k1 a0 l1 x5_1 x6_1 0 t673 t674 bt678.1 bt678.2)) = some r := H
          have A5 := Aside0.mk A50
          clear A50
          replace H := Option.bind_eq_some_iff.mp H
          obtain ⟨⟨t678, t679⟩, A60, H⟩ := H
          replace H : (tenetlaw02_turned.l1 k1 a0 l1 x5_1 x6_1 0 t673 t674 t678 t679) = some r := H
          have A6 := Aside0.mk A60
          clear A60
          have H' := Aside0.mk H
          clear H
          try go_wp2
          have n0_ := Aside0.mk (Kd.S_drew HO_5.out)
          have n1_ := Aside0.mk (below_drew1 HB.out)
          clear HO_5
          clear HB
          have HO_5 := n0_
          have HB := n1_
          clear n0_ n1_
          have p672 : 0 ≤ (x6_1 : Int) := of_decide_eq_true (by first | (with_reducible assumption) | assumption)
          have q672 : x6_1 < (l1.length : Int) := of_decide_eq_true (by first | (with_reducible assumption) | assumption)
          obtain ⟨ad672, A672_1, c672_1, A672_3, c672_3, e672, hx672_0, hx672_1, hx672_2, hx672_3, hl672_1, hi672_1, hl672_3, hi672_3⟩ := at_T44 HR1.out x6_1 p672 q672
          have hw672_3 := hx672_3
          have hw672_2 := hx672_2
          have hw672_1 := hx672_1
          have hw672_0 := hx672_0
          cases e672
          replace hx672_0 := (HB.out.cell (World.block_lt_of_cell? w _ hx672_0)).trans hx672_0
          replace hx672_1 := (HB.out.cell (World.block_lt_of_cell? w _ hx672_1)).trans hx672_1
          replace hx672_2 := (HB.out.cell (World.block_lt_of_cell? w _ hx672_2)).trans hx672_2
          replace hx672_3 := (HB.out.cell (World.block_lt_of_cell? w _ hx672_3)).trans hx672_3
          have HR672_1 := Aside0.mk hi672_1
          have HC672_1 := Aside0.mk hl672_1
          clear hi672_1 hl672_1
          have HR672_3 := Aside0.mk hi672_3
          have HC672_3 := Aside0.mk hl672_3
          clear hi672_3 hl672_3
          replace p672 := eq_true p672
          replace q672 := eq_true q672
          have p677 : 0 ≤ (x6_1 : Int) := of_decide_eq_true (by first | (with_reducible assumption) | assumption)
          have q677 : x6_1 < (l1.length : Int) := of_decide_eq_true (by first | (with_reducible assumption) | assumption)
          obtain ⟨ad677, A677_1, c677_1, A677_3, c677_3, e677, hx677_0, hx677_1, hx677_2, hx677_3, hl677_1, hi677_1, hl677_3, hi677_3⟩ := at_T44 HR1.out x6_1 p677 q677
          have hw677_3 := hx677_3
          have hw677_2 := hx677_2
          have hw677_1 := hx677_1
          have hw677_0 := hx677_0
          obtain rfl : ad672 = ad677 := (by injection e677)
          replace hx677_0 := (HB.out.cell (World.block_lt_of_cell? w _ hx677_0)).trans hx677_0
          replace hx677_1 := (HB.out.cell (World.block_lt_of_cell? w _ hx677_1)).trans hx677_1
          replace hx677_2 := (HB.out.cell (World.block_lt_of_cell? w _ hx677_2)).trans hx677_2
          replace hx677_3 := (HB.out.cell (World.block_lt_of_cell? w _ hx677_3)).trans hx677_3
          have HR677_1 := Aside0.mk hi677_1
          have HC677_1 := Aside0.mk hl677_1
          clear hi677_1 hl677_1
          have HR677_3 := Aside0.mk hi677_3
          have HC677_3 := Aside0.mk hl677_3
          clear hi677_3 hl677_3
          replace p677 := eq_true p677
          replace q677 := eq_true q677
          have ea_ := Option.some.inj (hx672_1.symm.trans hx677_1)
          injection ea_ with ea_ en_ ec_
          subst ea_
          subst ec_
          clear en_
          have ea_ := Option.some.inj (hx672_3.symm.trans hx677_3)
          injection ea_ with ea_ en_ ec_
          subst ea_
          subst ec_
          clear en_
          refine start_ (n := 15) (S := fun w' => w'.cell? (ad672.add ((x6_1).toNat * 4)) = some (.int .i64 ((rd_T44 l1 x6_1).f0.f0)) ∧ w'.cell? ⟨(ad672.add ((x6_1).toNat * 4)).block, (ad672.add ((x6_1).toNat * 4)).off + 1, none⟩ = some (.slice A672_1 ((rd_T44 l1 x6_1).f0.f1).length c672_1) ∧ w'.cell? ⟨(ad672.add ((x6_1).toNat * 4)).block, (ad672.add ((x6_1).toNat * 4)).off + 2, none⟩ = some (.int .i64 ((rd_T44 l1 x6_1).f1.f0)) ∧ w'.cell? ⟨(ad672.add ((x6_1).toNat * 4)).block, (ad672.add ((x6_1).toNat * 4)).off + 3, none⟩ = some (.slice A672_3 ((rd_T44 l1 x6_1).f1.f1).length c672_3) ∧ w'.cell? (ad672.add ((x6_1).toNat * 4)) = some (.int .i64 ((rd_T44 l1 x6_1).f0.f0)) ∧ w'.cell? ⟨(ad672.add ((x6_1).toNat * 4)).block, (ad672.add ((x6_1).toNat * 4)).off + 1, none⟩ = some (.slice A672_1 ((rd_T44 l1 x6_1).f0.f1).length c672_1) ∧ w'.cell? ⟨(ad672.add ((x6_1).toNat * 4)).block, (ad672.add ((x6_1).toNat * 4)).off + 2, none⟩ = some (.int .i64 ((rd_T44 l1 x6_1).f1.f0)) ∧ w'.cell? ⟨(ad672.add ((x6_1).toNat * 4)).block, (ad672.add ((x6_1).toNat * 4)).off + 3, none⟩ = some (.slice A672_3 ((rd_T44 l1 x6_1).f1.f1).length c672_3)) (ds := []) #[false, false, false, false, false, false, false, false, false, false, false, false, false, false, false] (by kernel_rfl) rfl rfl ⟨((HB.out.cell (World.block_lt_of_cell? w _ hw672_0)).trans hw672_0), ((HB.out.cell (World.block_lt_of_cell? w _ hw672_1)).trans hw672_1), ((HB.out.cell (World.block_lt_of_cell? w _ hw672_2)).trans hw672_2), ((HB.out.cell (World.block_lt_of_cell? w _ hw672_3)).trans hw672_3), ((HB.out.cell (World.block_lt_of_cell? w _ hw677_0)).trans hw677_0), ((HB.out.cell (World.block_lt_of_cell? w _ hw677_1)).trans hw677_1), ((HB.out.cell (World.block_lt_of_cell? w _ hw677_2)).trans hw677_2), ((HB.out.cell (World.block_lt_of_cell? w _ hw677_3)).trans hw677_3)⟩ (fun hHeld => ?_); refine with_tabW tenetlaw02_turned.tab5 tenetlaw02_turned.bits5 (fun HT_ HW_ => ?_)
          generalize wr.drew = w7 at HO_5 HB HR672_1 HR672_3 HR677_1 HR677_3 hx672_0 hx672_1 hx672_2 hx672_3 hx677_0 hx677_1 hx677_2 hx677_3 hHeld ⊢
          refine pure_ (i := 0) (N := some 16) (v := ?_) (a' := ?_) #[true, false, false, false, false, false, false, false, false, false, false, false, false, false, false] rfl rfl (any_of HT_.out (by kernel_rfl)) (fun _ _ _ h => h) (Or.inl ⟨by rfl, ?_⟩) ?_ ?_
          rotate_left
          · intro w'
            go_simp
            with_reducible rfl
          rotate_left
          · simp only [Act.put, List.setIfInBounds_toArray, List.set_cons_zero, List.set_cons_succ, i64_w, i32_w]
            rfl
          refine pure_ (i := 1) (N := some 17) (v := ?_) (a' := ?_) #[true, true, false, false, false, false, false, false, false, false, false, false, false, false, false] rfl rfl (any_of HT_.out (by kernel_rfl)) (fun _ _ _ h => h) (Or.inl ⟨by rfl, ?_⟩) ?_ ?_
          rotate_left
          · intro w'
            go_simp
            with_reducible rfl
          rotate_left
          · simp only [Act.put, List.setIfInBounds_toArray, List.set_cons_zero, List.set_cons_succ, i64_w, i32_w]
            rfl
          refine pure_ (i := 2) (N := some 18) (v := ?_) (a' := ?_) #[true, true, true, false, false, false, false, false, false, false, false, false, false, false, false] rfl rfl (any_of HT_.out (by kernel_rfl)) (fun _ _ _ h => h) (Or.inl ⟨by rfl, ?_⟩) ?_ ?_
          rotate_left
          · intro w'
            go_simp
            with_reducible rfl
          rotate_left
          · simp only [Act.put, List.setIfInBounds_toArray, List.set_cons_zero, List.set_cons_succ, i64_w, i32_w]
            rfl
          refine pure_ (i := 3) (N := some 19) (v := ?_) (a' := ?_) #[true, true, true, true, false, false, false, false, false, false, false, false, false, false, false] rfl rfl (any_of HT_.out (by kernel_rfl)) (fun _ _ _ h => h) (Or.inl ⟨by rfl, ?_⟩) ?_ ?_
          rotate_left
          · intro w'
            go_simp
            with_reducible rfl
          rotate_left
          · simp only [Act.put, List.setIfInBounds_toArray, List.set_cons_zero, List.set_cons_succ, i64_w, i32_w]
            rfl
          refine pure_ (i := 6) (N := some 22) (v := ?_) (a' := ?_) #[true, true, true, true, false, false, true, false, false, false, false, false, false, false, false] rfl rfl (any_of HT_.out (by kernel_rfl)) (fun _ _ _ h => h) (Or.inl ⟨by rfl, ?_⟩) ?_ ?_
          rotate_left
          · intro w'
            go_simp
            with_reducible rfl
          rotate_left
          · simp only [Act.put, List.setIfInBounds_toArray, List.set_cons_zero, List.set_cons_succ, i64_w, i32_w]
            rfl
          refine pure_ (i := 7) (N := some 23) (v := ?_) (a' := ?_) #[true, true, true, true, false, false, true, true, false, false, false, false, false, false, false] rfl rfl (any_of HT_.out (by kernel_rfl)) (fun _ _ _ h => h) (Or.inl ⟨by rfl, ?_⟩) ?_ ?_
          rotate_left
          · intro w'
            go_simp
            with_reducible rfl
          rotate_left
          · simp only [Act.put, List.setIfInBounds_toArray, List.set_cons_zero, List.set_cons_succ, i64_w, i32_w]
            rfl
          refine pure_ (i := 8) (N := some 24) (v := ?_) (a' := ?_) #[true, true, true, true, false, false, true, true, true, false, false, false, false, false, false] rfl rfl (any_of HT_.out (by kernel_rfl)) (fun _ _ _ h => h) (Or.inl ⟨by rfl, ?_⟩) ?_ ?_
          rotate_left
          · intro w'
            go_simp
            with_reducible rfl
          rotate_left
          · simp only [Act.put, List.setIfInBounds_toArray, List.set_cons_zero, List.set_cons_succ, i64_w, i32_w]
            rfl
          refine pure_ (i := 9) (N := some 25) (v := ?_) (a' := ?_) #[true, true, true, true, false, false, true, true, true, true, false, false, false, false, false] rfl rfl (any_of HT_.out (by kernel_rfl)) (fun _ _ _ h => h) (Or.inl ⟨by rfl, ?_⟩) ?_ ?_
          rotate_left
          · intro w'
            go_simp
            with_reducible rfl
          rotate_left
          · simp only [Act.put, List.setIfInBounds_toArray, List.set_cons_zero, List.set_cons_succ, i64_w, i32_w]
            rfl
          refine take_ (i := 4) (N := some 20) (v := ?_) (a' := ?_) #[true, true, true, true, true, false, true, true, true, true, false, false, false, false, false] rfl rfl (take_ofW HT_.out HW_.out (by kernel_rfl)) (fun _ _ _ h => h) (Or.inl ⟨by rfl, ?_⟩) hHeld ?_ ?_
          rotate_left
          · rintro w' ⟨s0, s1, s2, s3, s4, s5, s6, s7⟩
            go_simp
            with_reducible rfl
          rotate_left
          · simp only [Act.put, List.setIfInBounds_toArray, List.set_cons_zero, List.set_cons_succ, i64_w, i32_w]
            rfl
          refine take_ (i := 10) (N := some 26) (v := ?_) (a' := ?_) #[true, true, true, true, true, false, true, true, true, true, true, false, false, false, false] rfl rfl (take_ofW HT_.out HW_.out (by kernel_rfl)) (fun _ _ _ h => h) (Or.inl ⟨by rfl, ?_⟩) hHeld ?_ ?_
          rotate_left
          · rintro w' ⟨s0, s1, s2, s3, s4, s5, s6, s7⟩
            go_simp
            with_reducible rfl
          rotate_left
          · simp only [Act.put, List.setIfInBounds_toArray, List.set_cons_zero, List.set_cons_succ, i64_w, i32_w]
            rfl
          refine join_ (σ := Value × Value × Nat) 1 #[true, true, true, true, true, true, true, true, true, true, true, true, true, true, false] (fun s_ => [(21, .agg #[.int .i64 t673, s_.1]), (27, .agg #[.int .i64 t678, s_.2.1]), (7, .pointer (some ⟨s_.2.2, 0, none⟩)), (28, .agg #[.int .i64 t673, s_.1, .int .i64 t678, s_.2.1])]) (fun s_ w' => (w'.cell? (ad672.add ((x6_1).toNat * 4)) = some (.int .i64 ((rd_T44 l1 x6_1).f0.f0)) ∧ w'.cell? ⟨(ad672.add ((x6_1).toNat * 4)).block, (ad672.add ((x6_1).toNat * 4)).off + 1, none⟩ = some (.slice A672_1 ((rd_T44 l1 x6_1).f0.f1).length c672_1) ∧ w'.cell? ⟨(ad672.add ((x6_1).toNat * 4)).block, (ad672.add ((x6_1).toNat * 4)).off + 2, none⟩ = some (.int .i64 ((rd_T44 l1 x6_1).f1.f0)) ∧ w'.cell? ⟨(ad672.add ((x6_1).toNat * 4)).block, (ad672.add ((x6_1).toNat * 4)).off + 3, none⟩ = some (.slice A672_3 ((rd_T44 l1 x6_1).f1.f1).length c672_3) ∧ w'.cell? (ad672.add ((x6_1).toNat * 4)) = some (.int .i64 ((rd_T44 l1 x6_1).f0.f0)) ∧ w'.cell? ⟨(ad672.add ((x6_1).toNat * 4)).block, (ad672.add ((x6_1).toNat * 4)).off + 1, none⟩ = some (.slice A672_1 ((rd_T44 l1 x6_1).f0.f1).length c672_1) ∧ w'.cell? ⟨(ad672.add ((x6_1).toNat * 4)).block, (ad672.add ((x6_1).toNat * 4)).off + 2, none⟩ = some (.int .i64 ((rd_T44 l1 x6_1).f1.f0)) ∧ w'.cell? ⟨(ad672.add ((x6_1).toNat * 4)).block, (ad672.add ((x6_1).toNat * 4)).off + 3, none⟩ = some (.slice A672_3 ((rd_T44 l1 x6_1).f1.f1).length c672_3)) ∧ (Kd.R k96 96 w' w.heap.size (fun k_ => some k_ ≠ (s_.2.1 : Value).ownBlock) s_.1 t674) ∧ (Kd.R k96 96 w' w.heap.size (fun k_ => some k_ ≠ (s_.1 : Value).ownBlock) s_.2.1 t679) ∧ (Kd.S k44 44 w' w.heap.size (fun k_ => some k_ ≠ (s_.1 : Value).ownBlock ∧ some k_ ≠ (s_.2.1 : Value).ownBlock ∧ k_ ≠ s_.2.2) u5 x5_1) ∧ (w'.heap[s_.2.2]? = some (.cells #[.int .i64 0, .slice none 0 0, .int .i64 0, .slice none 0 0] 44 (0, 0))) ∧ (w.heap.size ≤ s_.2.2) ∧ (w.heap.size ≤ s_.2.2) ∧ (Below w.heap.size w w')) ?_ ?_
          rotate_left
          · intro hCont
            refine two_ (i := 5) (j := 13) (Ni := some 21) (Nj := some 7) #[true, true, true, true, true, true, true, true, true, true, true, false, false, false, false] #[true, true, true, true, true, false, true, true, true, true, true, false, false, true, false] rfl rfl rfl rfl (two_of HT_.out (by kernel_rfl)) (by decide) (by decide) (fun K hK => ?_) (fun K hK => ?_)
            · skip
              refine goes_ Try.func77 (by kernel_rfl) rfl #[.agg #[.int .i64 ((rd_T44 l1 x6_1).f0.f0), .slice A672_1 ((rd_T44 l1 x6_1).f0.f1).length c672_1]] (by rfl) rfl rfl (by (try simp only [List.map_toArray, List.map_cons, List.map_nil]); first | done | rfl | (simp only [List.length_drop, List.length_take]; rfl)) ?_
              with_reducible refine (tenetref00_CopyLevel.calls k1 ((rd_T44 l1 x6_1).f0.f0) _ _ ((rd_T44 l1 x6_1).f0.f1) t673 t674 _ ?side1 ?side2 A5.out).mono ?_
              (case side1 => repeat (first | exact (Kd.C_below HR672_1.out HB.out) | (with_reducible refine Kd.C_alloc ?_ _) | (with_reducible refine Kd.C_drewN ?_ _) | (with_reducible refine Kd.C_drew ?_)))
              (case side2 => exact HC672_1.out)
              rintro e w8 ⟨v675, rfl, ho0, hb⟩
              refine ⟨_, rfl, ?_⟩
              have n0_ := Aside0.mk (Kd.S_elder' (by (with_reducible repeat (first | apply Kd.S_alloc | apply Kd.S_drewN | apply Kd.S_drew)); exact HO_5.out) (Kd.R_base ho0) hb)
              have n1_ := Aside0.mk (Kd.R_lower ho0 (below_size (by repeat (first | (with_reducible first | exact HB.out | apply below_alloc | apply pw_below_drewN | apply below_drew1) | exact HB.out))))
              have n2_ := Aside0.mk (below_step (by repeat (first | (with_reducible first | exact HB.out | apply below_alloc | apply pw_below_drewN | apply below_drew1) | exact HB.out)) hb)
              clear HO_5
              clear HB
              have HO_5 := n0_
              have HO676 := n1_
              have HB := n2_
              clear n0_ n1_ n2_
              (try clear hb)
              (try clear hb2)
              (try clear hk)
              (try clear hi)
              (try clear ho0)
              refine hK.out _ _ ⟨((HB.out.cell (World.block_lt_of_cell? w _ hw672_0)).trans hw672_0), ((HB.out.cell (World.block_lt_of_cell? w _ hw672_1)).trans hw672_1), ((HB.out.cell (World.block_lt_of_cell? w _ hw672_2)).trans hw672_2), ((HB.out.cell (World.block_lt_of_cell? w _ hw672_3)).trans hw672_3), ((HB.out.cell (World.block_lt_of_cell? w _ hw677_0)).trans hw677_0), ((HB.out.cell (World.block_lt_of_cell? w _ hw677_1)).trans hw677_1), ((HB.out.cell (World.block_lt_of_cell? w _ hw677_2)).trans hw677_2), ((HB.out.cell (World.block_lt_of_cell? w _ hw677_3)).trans hw677_3)⟩ (fun hHeld => ?_)
              clear hK K
              refine norm_ (a' := ?_) ?_ ?_
              rotate_left
              · show Act.put _ (some 21) _ = _
                simp only [Act.put, List.setIfInBounds_toArray, List.set_cons_zero, List.set_cons_succ, i64_w, i32_w]
                rfl
              refine two_ (i := 11) (j := 13) (Ni := some 27) (Nj := some 7) #[true, true, true, true, true, true, true, true, true, true, true, true, false, false, false] #[true, true, true, true, true, true, true, true, true, true, true, false, false, true, false] rfl rfl rfl rfl (two_of HT_.out (by kernel_rfl)) (by decide) (by decide) (fun K hK => ?_) (fun K hK => ?_)
              · skip
                refine goes_ Try.func77 (by kernel_rfl) rfl #[.agg #[.int .i64 ((rd_T44 l1 x6_1).f1.f0), .slice A672_3 ((rd_T44 l1 x6_1).f1.f1).length c672_3]] (by rfl) rfl rfl (by (try simp only [List.map_toArray, List.map_cons, List.map_nil]); first | done | rfl | (simp only [List.length_drop, List.length_take]; rfl)) ?_
                with_reducible refine (tenetref00_CopyLevel.calls k1 ((rd_T44 l1 x6_1).f1.f0) _ _ ((rd_T44 l1 x6_1).f1.f1) t678 t679 _ ?side1 ?side2 A6.out).mono ?_
                (case side1 => repeat (first | exact (Kd.C_below HR677_3.out HB.out) | (with_reducible refine Kd.C_alloc ?_ _) | (with_reducible refine Kd.C_drewN ?_ _) | (with_reducible refine Kd.C_drew ?_)))
                (case side2 => exact HC677_3.out)
                rintro e w9 ⟨v680, rfl, ho0, hb⟩
                refine ⟨_, rfl, ?_⟩
                have n0_ := Aside0.mk (Kd.S_elder' (by (with_reducible repeat (first | apply Kd.S_alloc | apply Kd.S_drewN | apply Kd.S_drew)); exact HO_5.out) (Kd.R_base ho0) hb)
                have n1_ := Aside0.mk (Kd.R_elder' (by (with_reducible repeat (first | apply Kd.R_alloc | apply Kd.R_drewN | apply Kd.R_drew)); exact HO676.out) (Kd.R_base ho0) hb)
                have n2_ := Aside0.mk (Kd.R_lower (Kd.R_new' ho0 (Kd.R_lt (by (with_reducible repeat (first | apply Kd.R_alloc | apply Kd.R_drewN | apply Kd.R_drew)); exact HO676.out))) (below_size (by repeat (first | (with_reducible first | exact HB.out | apply below_alloc | apply pw_below_drewN | apply below_drew1) | exact HB.out))))
                have n3_ := Aside0.mk (below_step (by repeat (first | (with_reducible first | exact HB.out | apply below_alloc | apply pw_below_drewN | apply below_drew1) | exact HB.out)) hb)
                clear HO_5
                clear HO676
                clear HB
                have HO_5 := n0_
                have HO676 := n1_
                have HO681 := n2_
                have HB := n3_
                clear n0_ n1_ n2_ n3_
                (try clear hb)
                (try clear hb2)
                (try clear hk)
                (try clear hi)
                (try clear ho0)
                obtain ⟨Ao10, co10, eo10⟩ := Kd.R_slice HO681.out
                (first | subst eo10 | (injection eo10 with f1_ f2_ f3_; have f4_ := f1_.symm; have f5_ := f3_.symm; clear f1_ f2_ f3_; subst f4_; subst f5_))
                obtain ⟨Ao11, co11, eo11⟩ := Kd.R_slice HO676.out
                (first | subst eo11 | (injection eo11 with f1_ f2_ f3_; have f4_ := f1_.symm; have f5_ := f3_.symm; clear f1_ f2_ f3_; subst f4_; subst f5_))
                refine hK.out _ _ ⟨((HB.out.cell (World.block_lt_of_cell? w _ hw672_0)).trans hw672_0), ((HB.out.cell (World.block_lt_of_cell? w _ hw672_1)).trans hw672_1), ((HB.out.cell (World.block_lt_of_cell? w _ hw672_2)).trans hw672_2), ((HB.out.cell (World.block_lt_of_cell? w _ hw672_3)).trans hw672_3), ((HB.out.cell (World.block_lt_of_cell? w _ hw677_0)).trans hw677_0), ((HB.out.cell (World.block_lt_of_cell? w _ hw677_1)).trans hw677_1), ((HB.out.cell (World.block_lt_of_cell? w _ hw677_2)).trans hw677_2), ((HB.out.cell (World.block_lt_of_cell? w _ hw677_3)).trans hw677_3)⟩ (fun hHeld => ?_)
                clear hK K
                refine norm_ (a' := ?_) ?_ ?_
                rotate_left
                · show Act.put _ (some 27) _ = _
                  simp only [Act.put, List.setIfInBounds_toArray, List.set_cons_zero, List.set_cons_succ, i64_w, i32_w]
                  rfl
                refine pure_ (i := 12) (N := some 28) (v := ?_) (a' := ?_) #[true, true, true, true, true, true, true, true, true, true, true, true, true, false, false] rfl rfl (any_of HT_.out (by kernel_rfl)) (fun _ _ _ h => h) (Or.inl ⟨by rfl, ?_⟩) ?_ ?_
                rotate_left
                · intro w'
                  go_simp
                  with_reducible rfl
                rotate_left
                · simp only [Act.put, List.setIfInBounds_toArray, List.set_cons_zero, List.set_cons_succ, i64_w, i32_w]
                  rfl
                refine one_ (i := 13) (N := some 7) #[true, true, true, true, true, true, true, true, true, true, true, true, true, true, false] rfl rfl (one_of HT_.out (by kernel_rfl)) (by decide) (fun K hK => ?_)
                refine box_step ?hg (N := 7) ?hd (cs := #[.int .i64 0, .slice none 0 0, .int .i64 0, .slice none 0 0]) (t := 44) ?hr ?_; (case hd => rfl); (case hg => rfl); (case hr => first | (go_simp; done) | (go_simp; rfl))
                intro gb682 hg w12 hbox hb
                have n0_ := Aside0.mk (Kd.S_below (Kd.S_elderB (by (with_reducible repeat (first | apply Kd.S_alloc | apply Kd.S_drewN | apply Kd.S_drew)); exact HO_5.out) gb682 (Nat.le_of_eq hg.symm)) hb)
                have n1_ := Aside0.mk (Kd.R_below (by (with_reducible repeat (first | apply Kd.R_alloc | apply Kd.R_drewN | apply Kd.R_drew)); exact HO676.out) hb)
                have n2_ := Aside0.mk (Kd.R_below (by (with_reducible repeat (first | apply Kd.R_alloc | apply Kd.R_drewN | apply Kd.R_drew)); exact HO681.out) hb)
                have n3_ := Aside0.mk (below_step (by repeat (first | (with_reducible first | exact HB.out | apply below_alloc | apply pw_below_drewN | apply below_drew1) | exact HB.out)) hb)
                have n4_ := Aside0.mk (hbox)
                have n5_ := Aside0.mk ((by rw [hg]; exact (below_size (by repeat (first | (with_reducible first | exact HB.out | apply below_alloc | apply pw_below_drewN | apply below_drew1) | exact HB.out))) : w.heap.size ≤ gb682))
                have n6_ := Aside0.mk ((by rw [hg]; exact (below_size (by repeat (first | (with_reducible first | exact HB.out | apply below_alloc | apply pw_below_drewN | apply below_drew1) | exact HB.out))) : w.heap.size ≤ gb682))
                clear HO_5
                clear HO676
                clear HO681
                clear HB
                have HO_5 := n0_
                have HO676 := n1_
                have HO681 := n2_
                have HB := n3_
                have BK682 := n4_
                have GW682 := n5_
                have GE682 := n6_
                clear n0_ n1_ n2_ n3_ n4_ n5_ n6_
                clear hb hbox hg
                refine hK.out _ _ ⟨((HB.out.cell (World.block_lt_of_cell? w _ hw672_0)).trans hw672_0), ((HB.out.cell (World.block_lt_of_cell? w _ hw672_1)).trans hw672_1), ((HB.out.cell (World.block_lt_of_cell? w _ hw672_2)).trans hw672_2), ((HB.out.cell (World.block_lt_of_cell? w _ hw672_3)).trans hw672_3), ((HB.out.cell (World.block_lt_of_cell? w _ hw677_0)).trans hw677_0), ((HB.out.cell (World.block_lt_of_cell? w _ hw677_1)).trans hw677_1), ((HB.out.cell (World.block_lt_of_cell? w _ hw677_2)).trans hw677_2), ((HB.out.cell (World.block_lt_of_cell? w _ hw677_3)).trans hw677_3)⟩ (fun hHeld => ?_)
                clear hK K
                refine norm_ (a' := ?_) ?_ ?_
                rotate_left
                · show Act.put _ (some 7) _ = _
                  simp only [Act.put, List.setIfInBounds_toArray, List.set_cons_zero, List.set_cons_succ, i64_w, i32_w]
                  rfl
                exact norm_ (by simp only [putAll, Act.put, List.setIfInBounds_toArray, List.set_cons_zero, List.set_cons_succ]) (hCont (.slice Ao11 t674.length co11, .slice Ao10 t679.length co10, gb682) _ ⟨hHeld, (by (with_reducible repeat (first | apply Kd.R_alloc | apply Kd.R_drewN | apply Kd.R_drew)); exact Kd.R_mono HO676.out (fun _ hk => hk.2)), (by (with_reducible repeat (first | apply Kd.R_alloc | apply Kd.R_drewN | apply Kd.R_drew)); exact Kd.R_mono HO681.out (fun _ hk => hk.2)), (by (with_reducible repeat (first | apply Kd.S_alloc | apply Kd.S_drewN | apply Kd.S_drew)); exact Kd.S_mono HO_5.out (fun _ hk => ⟨hk.1.1.2, ⟨hk.1.2, hk.2⟩⟩)), (by (with_reducible repeat (first | refine blk_drewN ?_ _ | refine blk_drew ?_ | refine blk_alloc ?_ _)); exact BK682.out), GW682.out, GE682.out, (by repeat (first | (with_reducible first | exact HB.out | apply below_alloc | apply pw_below_drewN | apply below_drew1 | refine below_set ?_ GE682.out) | exact HB.out))⟩)
              · skip
                refine box_step ?hg (N := 7) ?hd (cs := #[.int .i64 0, .slice none 0 0, .int .i64 0, .slice none 0 0]) (t := 44) ?hr ?_; (case hd => rfl); (case hg => rfl); (case hr => first | (go_simp; done) | (go_simp; rfl))
                intro gb682 hg w9 hbox hb
                have n0_ := Aside0.mk (Kd.S_below (Kd.S_elderB (by (with_reducible repeat (first | apply Kd.S_alloc | apply Kd.S_drewN | apply Kd.S_drew)); exact HO_5.out) gb682 (Nat.le_of_eq hg.symm)) hb)
                have n1_ := Aside0.mk (Kd.R_below (by (with_reducible repeat (first | apply Kd.R_alloc | apply Kd.R_drewN | apply Kd.R_drew)); exact HO676.out) hb)
                have n2_ := Aside0.mk (below_step (by repeat (first | (with_reducible first | exact HB.out | apply below_alloc | apply pw_below_drewN | apply below_drew1) | exact HB.out)) hb)
                have n3_ := Aside0.mk (hbox)
                have n4_ := Aside0.mk ((by rw [hg]; exact (below_size (by repeat (first | (with_reducible first | exact HB.out | apply below_alloc | apply pw_below_drewN | apply below_drew1) | exact HB.out))) : w.heap.size ≤ gb682))
                have n5_ := Aside0.mk ((by rw [hg]; exact (below_size (by repeat (first | (with_reducible first | exact HB.out | apply below_alloc | apply pw_below_drewN | apply below_drew1) | exact HB.out))) : w.heap.size ≤ gb682))
                clear HO_5
                clear HO676
                clear HB
                have HO_5 := n0_
                have HO676 := n1_
                have HB := n2_
                have BK682 := n3_
                have GW682 := n4_
                have GE682 := n5_
                clear n0_ n1_ n2_ n3_ n4_ n5_
                clear hb hbox hg
                refine hK.out _ _ ⟨((HB.out.cell (World.block_lt_of_cell? w _ hw672_0)).trans hw672_0), ((HB.out.cell (World.block_lt_of_cell? w _ hw672_1)).trans hw672_1), ((HB.out.cell (World.block_lt_of_cell? w _ hw672_2)).trans hw672_2), ((HB.out.cell (World.block_lt_of_cell? w _ hw672_3)).trans hw672_3), ((HB.out.cell (World.block_lt_of_cell? w _ hw677_0)).trans hw677_0), ((HB.out.cell (World.block_lt_of_cell? w _ hw677_1)).trans hw677_1), ((HB.out.cell (World.block_lt_of_cell? w _ hw677_2)).trans hw677_2), ((HB.out.cell (World.block_lt_of_cell? w _ hw677_3)).trans hw677_3)⟩ (fun hHeld => ?_)
                clear hK K
                refine norm_ (a' := ?_) ?_ ?_
                rotate_left
                · show Act.put _ (some 7) _ = _
                  simp only [Act.put, List.setIfInBounds_toArray, List.set_cons_zero, List.set_cons_succ, i64_w, i32_w]
                  rfl
                refine one_ (i := 11) (N := some 27) #[true, true, true, true, true, true, true, true, true, true, true, true, false, true, false] rfl rfl (one_of HT_.out (by kernel_rfl)) (by decide) (fun K hK => ?_)
                refine goes_ Try.func77 (by kernel_rfl) rfl #[.agg #[.int .i64 ((rd_T44 l1 x6_1).f1.f0), .slice A672_3 ((rd_T44 l1 x6_1).f1.f1).length c672_3]] (by rfl) rfl rfl (by (try simp only [List.map_toArray, List.map_cons, List.map_nil]); first | done | rfl | (simp only [List.length_drop, List.length_take]; rfl)) ?_
                with_reducible refine (tenetref00_CopyLevel.calls k1 ((rd_T44 l1 x6_1).f1.f0) _ _ ((rd_T44 l1 x6_1).f1.f1) t678 t679 _ ?side1 ?side2 A6.out).mono ?_
                (case side1 => repeat (first | exact (Kd.C_below HR677_3.out HB.out) | (with_reducible refine Kd.C_alloc ?_ _) | (with_reducible refine Kd.C_drewN ?_ _) | (with_reducible refine Kd.C_drew ?_)))
                (case side2 => exact HC677_3.out)
                rintro e w10 ⟨v680, rfl, ho0, hb⟩
                refine ⟨_, rfl, ?_⟩
                have n0_ := Aside0.mk (Kd.S_elder' (by (with_reducible repeat (first | apply Kd.S_alloc | apply Kd.S_drewN | apply Kd.S_drew)); exact HO_5.out) (Kd.R_base ho0) hb)
                have n1_ := Aside0.mk (Kd.R_elder' (by (with_reducible repeat (first | apply Kd.R_alloc | apply Kd.R_drewN | apply Kd.R_drew)); exact HO676.out) (Kd.R_base ho0) hb)
                have n2_ := Aside0.mk (Kd.R_lower (Kd.R_new' ho0 (Kd.R_lt (by (with_reducible repeat (first | apply Kd.R_alloc | apply Kd.R_drewN | apply Kd.R_drew)); exact HO676.out))) (below_size (by repeat (first | (with_reducible first | exact HB.out | apply below_alloc | apply pw_below_drewN | apply below_drew1 | refine below_set ?_ GE682.out) | exact HB.out))))
                have n3_ := Aside0.mk (blk_below (g := gb682) (o := .cells #[.int .i64 0, .slice none 0 0, .int .i64 0, .slice none 0 0] 44 (0, 0)) (by (with_reducible repeat (first | refine blk_drewN ?_ _ | refine blk_drew ?_ | refine blk_alloc ?_ _)); exact BK682.out) hb)
                have n4_ := Aside0.mk (below_step (by repeat (first | (with_reducible first | exact HB.out | apply below_alloc | apply pw_below_drewN | apply below_drew1 | refine below_set ?_ GE682.out) | exact HB.out)) hb)
                clear HO_5
                clear HO676
                clear BK682
                clear HB
                have HO_5 := n0_
                have HO676 := n1_
                have HO681 := n2_
                have BK682 := n3_
                have HB := n4_
                clear n0_ n1_ n2_ n3_ n4_
                (try clear hb)
                (try clear hb2)
                (try clear hk)
                (try clear hi)
                (try clear ho0)
                obtain ⟨Ao11, co11, eo11⟩ := Kd.R_slice HO681.out
                (first | subst eo11 | (injection eo11 with f1_ f2_ f3_; have f4_ := f1_.symm; have f5_ := f3_.symm; clear f1_ f2_ f3_; subst f4_; subst f5_))
                obtain ⟨Ao12, co12, eo12⟩ := Kd.R_slice HO676.out
                (first | subst eo12 | (injection eo12 with f1_ f2_ f3_; have f4_ := f1_.symm; have f5_ := f3_.symm; clear f1_ f2_ f3_; subst f4_; subst f5_))
                refine hK.out _ _ ⟨((HB.out.cell (World.block_lt_of_cell? w _ hw672_0)).trans hw672_0), ((HB.out.cell (World.block_lt_of_cell? w _ hw672_1)).trans hw672_1), ((HB.out.cell (World.block_lt_of_cell? w _ hw672_2)).trans hw672_2), ((HB.out.cell (World.block_lt_of_cell? w _ hw672_3)).trans hw672_3), ((HB.out.cell (World.block_lt_of_cell? w _ hw677_0)).trans hw677_0), ((HB.out.cell (World.block_lt_of_cell? w _ hw677_1)).trans hw677_1), ((HB.out.cell (World.block_lt_of_cell? w _ hw677_2)).trans hw677_2), ((HB.out.cell (World.block_lt_of_cell? w _ hw677_3)).trans hw677_3)⟩ (fun hHeld => ?_)
                clear hK K
                refine norm_ (a' := ?_) ?_ ?_
                rotate_left
                · show Act.put _ (some 27) _ = _
                  simp only [Act.put, List.setIfInBounds_toArray, List.set_cons_zero, List.set_cons_succ, i64_w, i32_w]
                  rfl
                refine pure_ (i := 12) (N := some 28) (v := ?_) (a' := ?_) #[true, true, true, true, true, true, true, true, true, true, true, true, true, true, false] rfl rfl (any_of HT_.out (by kernel_rfl)) (fun _ _ _ h => h) (Or.inl ⟨by rfl, ?_⟩) ?_ ?_
                rotate_left
                · intro w'
                  go_simp
                  with_reducible rfl
                rotate_left
                · simp only [Act.put, List.setIfInBounds_toArray, List.set_cons_zero, List.set_cons_succ, i64_w, i32_w]
                  rfl
                exact norm_ (by simp only [putAll, Act.put, List.setIfInBounds_toArray, List.set_cons_zero, List.set_cons_succ]) (hCont (.slice Ao12 t674.length co12, .slice Ao11 t679.length co11, gb682) _ ⟨hHeld, (by (with_reducible repeat (first | apply Kd.R_alloc | apply Kd.R_drewN | apply Kd.R_drew)); exact Kd.R_mono HO676.out (fun _ hk => hk.2)), (by (with_reducible repeat (first | apply Kd.R_alloc | apply Kd.R_drewN | apply Kd.R_drew)); exact Kd.R_mono HO681.out (fun _ hk => hk.2)), (by (with_reducible repeat (first | apply Kd.S_alloc | apply Kd.S_drewN | apply Kd.S_drew)); exact Kd.S_mono HO_5.out (fun _ hk => ⟨hk.1.1.2, ⟨hk.2, hk.1.2⟩⟩)), (by (with_reducible repeat (first | refine blk_drewN ?_ _ | refine blk_drew ?_ | refine blk_alloc ?_ _)); exact BK682.out), GW682.out, GE682.out, (by repeat (first | (with_reducible first | exact HB.out | apply below_alloc | apply pw_below_drewN | apply below_drew1 | refine below_set ?_ GE682.out) | exact HB.out))⟩)
            · skip
              refine box_step ?hg (N := 7) ?hd (cs := #[.int .i64 0, .slice none 0 0, .int .i64 0, .slice none 0 0]) (t := 44) ?hr ?_; (case hd => rfl); (case hg => rfl); (case hr => first | (go_simp; done) | (go_simp; rfl))
              intro gb682 hg w8 hbox hb
              have n0_ := Aside0.mk (Kd.S_below (Kd.S_elderB (by (with_reducible repeat (first | apply Kd.S_alloc | apply Kd.S_drewN | apply Kd.S_drew)); exact HO_5.out) gb682 (Nat.le_of_eq hg.symm)) hb)
              have n1_ := Aside0.mk (below_step (by repeat (first | (with_reducible first | exact HB.out | apply below_alloc | apply pw_below_drewN | apply below_drew1) | exact HB.out)) hb)
              have n2_ := Aside0.mk (hbox)
              have n3_ := Aside0.mk ((by rw [hg]; exact (below_size (by repeat (first | (with_reducible first | exact HB.out | apply below_alloc | apply pw_below_drewN | apply below_drew1) | exact HB.out))) : w.heap.size ≤ gb682))
              have n4_ := Aside0.mk ((by rw [hg]; exact (below_size (by repeat (first | (with_reducible first | exact HB.out | apply below_alloc | apply pw_below_drewN | apply below_drew1) | exact HB.out))) : w.heap.size ≤ gb682))
              clear HO_5
              clear HB
              have HO_5 := n0_
              have HB := n1_
              have BK682 := n2_
              have GW682 := n3_
              have GE682 := n4_
              clear n0_ n1_ n2_ n3_ n4_
              clear hb hbox hg
              refine hK.out _ _ ⟨((HB.out.cell (World.block_lt_of_cell? w _ hw672_0)).trans hw672_0), ((HB.out.cell (World.block_lt_of_cell? w _ hw672_1)).trans hw672_1), ((HB.out.cell (World.block_lt_of_cell? w _ hw672_2)).trans hw672_2), ((HB.out.cell (World.block_lt_of_cell? w _ hw672_3)).trans hw672_3), ((HB.out.cell (World.block_lt_of_cell? w _ hw677_0)).trans hw677_0), ((HB.out.cell (World.block_lt_of_cell? w _ hw677_1)).trans hw677_1), ((HB.out.cell (World.block_lt_of_cell? w _ hw677_2)).trans hw677_2), ((HB.out.cell (World.block_lt_of_cell? w _ hw677_3)).trans hw677_3)⟩ (fun hHeld => ?_)
              clear hK K
              refine norm_ (a' := ?_) ?_ ?_
              rotate_left
              · show Act.put _ (some 7) _ = _
                simp only [Act.put, List.setIfInBounds_toArray, List.set_cons_zero, List.set_cons_succ, i64_w, i32_w]
                rfl
              refine one_ (i := 5) (N := some 21) #[true, true, true, true, true, true, true, true, true, true, true, false, false, true, false] rfl rfl (one_of HT_.out (by kernel_rfl)) (by decide) (fun K hK => ?_)
              refine goes_ Try.func77 (by kernel_rfl) rfl #[.agg #[.int .i64 ((rd_T44 l1 x6_1).f0.f0), .slice A672_1 ((rd_T44 l1 x6_1).f0.f1).length c672_1]] (by rfl) rfl rfl (by (try simp only [List.map_toArray, List.map_cons, List.map_nil]); first | done | rfl | (simp only [List.length_drop, List.length_take]; rfl)) ?_
              with_reducible refine (tenetref00_CopyLevel.calls k1 ((rd_T44 l1 x6_1).f0.f0) _ _ ((rd_T44 l1 x6_1).f0.f1) t673 t674 _ ?side1 ?side2 A5.out).mono ?_
              (case side1 => repeat (first | exact (Kd.C_below HR672_1.out HB.out) | (with_reducible refine Kd.C_alloc ?_ _) | (with_reducible refine Kd.C_drewN ?_ _) | (with_reducible refine Kd.C_drew ?_)))
              (case side2 => exact HC672_1.out)
              rintro e w9 ⟨v675, rfl, ho0, hb⟩
              refine ⟨_, rfl, ?_⟩
              have n0_ := Aside0.mk (Kd.S_elder' (by (with_reducible repeat (first | apply Kd.S_alloc | apply Kd.S_drewN | apply Kd.S_drew)); exact HO_5.out) (Kd.R_base ho0) hb)
              have n1_ := Aside0.mk (Kd.R_lower ho0 (below_size (by repeat (first | (with_reducible first | exact HB.out | apply below_alloc | apply pw_below_drewN | apply below_drew1 | refine below_set ?_ GE682.out) | exact HB.out))))
              have n2_ := Aside0.mk (blk_below (g := gb682) (o := .cells #[.int .i64 0, .slice none 0 0, .int .i64 0, .slice none 0 0] 44 (0, 0)) (by (with_reducible repeat (first | refine blk_drewN ?_ _ | refine blk_drew ?_ | refine blk_alloc ?_ _)); exact BK682.out) hb)
              have n3_ := Aside0.mk (below_step (by repeat (first | (with_reducible first | exact HB.out | apply below_alloc | apply pw_below_drewN | apply below_drew1 | refine below_set ?_ GE682.out) | exact HB.out)) hb)
              clear HO_5
              clear BK682
              clear HB
              have HO_5 := n0_
              have HO676 := n1_
              have BK682 := n2_
              have HB := n3_
              clear n0_ n1_ n2_ n3_
              (try clear hb)
              (try clear hb2)
              (try clear hk)
              (try clear hi)
              (try clear ho0)
              refine hK.out _ _ ⟨((HB.out.cell (World.block_lt_of_cell? w _ hw672_0)).trans hw672_0), ((HB.out.cell (World.block_lt_of_cell? w _ hw672_1)).trans hw672_1), ((HB.out.cell (World.block_lt_of_cell? w _ hw672_2)).trans hw672_2), ((HB.out.cell (World.block_lt_of_cell? w _ hw672_3)).trans hw672_3), ((HB.out.cell (World.block_lt_of_cell? w _ hw677_0)).trans hw677_0), ((HB.out.cell (World.block_lt_of_cell? w _ hw677_1)).trans hw677_1), ((HB.out.cell (World.block_lt_of_cell? w _ hw677_2)).trans hw677_2), ((HB.out.cell (World.block_lt_of_cell? w _ hw677_3)).trans hw677_3)⟩ (fun hHeld => ?_)
              clear hK K
              refine norm_ (a' := ?_) ?_ ?_
              rotate_left
              · show Act.put _ (some 21) _ = _
                simp only [Act.put, List.setIfInBounds_toArray, List.set_cons_zero, List.set_cons_succ, i64_w, i32_w]
                rfl
              refine one_ (i := 11) (N := some 27) #[true, true, true, true, true, true, true, true, true, true, true, true, false, true, false] rfl rfl (one_of HT_.out (by kernel_rfl)) (by decide) (fun K hK => ?_)
              refine goes_ Try.func77 (by kernel_rfl) rfl #[.agg #[.int .i64 ((rd_T44 l1 x6_1).f1.f0), .slice A672_3 ((rd_T44 l1 x6_1).f1.f1).length c672_3]] (by rfl) rfl rfl (by (try simp only [List.map_toArray, List.map_cons, List.map_nil]); first | done | rfl | (simp only [List.length_drop, List.length_take]; rfl)) ?_
              with_reducible refine (tenetref00_CopyLevel.calls k1 ((rd_T44 l1 x6_1).f1.f0) _ _ ((rd_T44 l1 x6_1).f1.f1) t678 t679 _ ?side1 ?side2 A6.out).mono ?_
              (case side1 => repeat (first | exact (Kd.C_below HR677_3.out HB.out) | (with_reducible refine Kd.C_alloc ?_ _) | (with_reducible refine Kd.C_drewN ?_ _) | (with_reducible refine Kd.C_drew ?_)))
              (case side2 => exact HC677_3.out)
              rintro e w10 ⟨v680, rfl, ho0, hb⟩
              refine ⟨_, rfl, ?_⟩
              have n0_ := Aside0.mk (Kd.S_elder' (by (with_reducible repeat (first | apply Kd.S_alloc | apply Kd.S_drewN | apply Kd.S_drew)); exact HO_5.out) (Kd.R_base ho0) hb)
              have n1_ := Aside0.mk (Kd.R_elder' (by (with_reducible repeat (first | apply Kd.R_alloc | apply Kd.R_drewN | apply Kd.R_drew)); exact HO676.out) (Kd.R_base ho0) hb)
              have n2_ := Aside0.mk (Kd.R_lower (Kd.R_new' ho0 (Kd.R_lt (by (with_reducible repeat (first | apply Kd.R_alloc | apply Kd.R_drewN | apply Kd.R_drew)); exact HO676.out))) (below_size (by repeat (first | (with_reducible first | exact HB.out | apply below_alloc | apply pw_below_drewN | apply below_drew1 | refine below_set ?_ GE682.out) | exact HB.out))))
              have n3_ := Aside0.mk (blk_below (g := gb682) (o := .cells #[.int .i64 0, .slice none 0 0, .int .i64 0, .slice none 0 0] 44 (0, 0)) (by (with_reducible repeat (first | refine blk_drewN ?_ _ | refine blk_drew ?_ | refine blk_alloc ?_ _)); exact BK682.out) hb)
              have n4_ := Aside0.mk (below_step (by repeat (first | (with_reducible first | exact HB.out | apply below_alloc | apply pw_below_drewN | apply below_drew1 | refine below_set ?_ GE682.out) | exact HB.out)) hb)
              clear HO_5
              clear HO676
              clear BK682
              clear HB
              have HO_5 := n0_
              have HO676 := n1_
              have HO681 := n2_
              have BK682 := n3_
              have HB := n4_
              clear n0_ n1_ n2_ n3_ n4_
              (try clear hb)
              (try clear hb2)
              (try clear hk)
              (try clear hi)
              (try clear ho0)
              obtain ⟨Ao11, co11, eo11⟩ := Kd.R_slice HO681.out
              (first | subst eo11 | (injection eo11 with f1_ f2_ f3_; have f4_ := f1_.symm; have f5_ := f3_.symm; clear f1_ f2_ f3_; subst f4_; subst f5_))
              obtain ⟨Ao12, co12, eo12⟩ := Kd.R_slice HO676.out
              (first | subst eo12 | (injection eo12 with f1_ f2_ f3_; have f4_ := f1_.symm; have f5_ := f3_.symm; clear f1_ f2_ f3_; subst f4_; subst f5_))
              refine hK.out _ _ ⟨((HB.out.cell (World.block_lt_of_cell? w _ hw672_0)).trans hw672_0), ((HB.out.cell (World.block_lt_of_cell? w _ hw672_1)).trans hw672_1), ((HB.out.cell (World.block_lt_of_cell? w _ hw672_2)).trans hw672_2), ((HB.out.cell (World.block_lt_of_cell? w _ hw672_3)).trans hw672_3), ((HB.out.cell (World.block_lt_of_cell? w _ hw677_0)).trans hw677_0), ((HB.out.cell (World.block_lt_of_cell? w _ hw677_1)).trans hw677_1), ((HB.out.cell (World.block_lt_of_cell? w _ hw677_2)).trans hw677_2), ((HB.out.cell (World.block_lt_of_cell? w _ hw677_3)).trans hw677_3)⟩ (fun hHeld => ?_)
              clear hK K
              refine norm_ (a' := ?_) ?_ ?_
              rotate_left
              · show Act.put _ (some 27) _ = _
                simp only [Act.put, List.setIfInBounds_toArray, List.set_cons_zero, List.set_cons_succ, i64_w, i32_w]
                rfl
              refine pure_ (i := 12) (N := some 28) (v := ?_) (a' := ?_) #[true, true, true, true, true, true, true, true, true, true, true, true, true, true, false] rfl rfl (any_of HT_.out (by kernel_rfl)) (fun _ _ _ h => h) (Or.inl ⟨by rfl, ?_⟩) ?_ ?_
              rotate_left
              · intro w'
                go_simp
                with_reducible rfl
              rotate_left
              · simp only [Act.put, List.setIfInBounds_toArray, List.set_cons_zero, List.set_cons_succ, i64_w, i32_w]
                rfl
              exact norm_ (by simp only [putAll, Act.put, List.setIfInBounds_toArray, List.set_cons_zero, List.set_cons_succ]) (hCont (.slice Ao12 t674.length co12, .slice Ao11 t679.length co11, gb682) _ ⟨hHeld, (by (with_reducible repeat (first | apply Kd.R_alloc | apply Kd.R_drewN | apply Kd.R_drew)); exact Kd.R_mono HO676.out (fun _ hk => hk.2)), (by (with_reducible repeat (first | apply Kd.R_alloc | apply Kd.R_drewN | apply Kd.R_drew)); exact Kd.R_mono HO681.out (fun _ hk => hk.2)), (by (with_reducible repeat (first | apply Kd.S_alloc | apply Kd.S_drewN | apply Kd.S_drew)); exact Kd.S_mono HO_5.out (fun _ hk => ⟨hk.1.2, ⟨hk.2, hk.1.1.2⟩⟩)), (by (with_reducible repeat (first | refine blk_drewN ?_ _ | refine blk_drew ?_ | refine blk_alloc ?_ _)); exact BK682.out), GW682.out, GE682.out, (by repeat (first | (with_reducible first | exact HB.out | apply below_alloc | apply pw_below_drewN | apply below_drew1 | refine below_set ?_ GE682.out) | exact HB.out))⟩)
          rintro ⟨v675, v680, gb682⟩ w13 ⟨hS_, h0_, h1_, h2_, h3_, h4_, h5_, h6_⟩
          have n0_ : Aside0 (Kd.R k96 96 w13 w.heap.size (fun k_ => some k_ ≠ (v680 : Value).ownBlock) v675 t674) := ⟨h0_⟩
          have n1_ : Aside0 (Kd.R k96 96 w13 w.heap.size (fun k_ => some k_ ≠ (v675 : Value).ownBlock) v680 t679) := ⟨h1_⟩
          have n2_ : Aside0 (Kd.S k44 44 w13 w.heap.size (fun k_ => some k_ ≠ (v675 : Value).ownBlock ∧ some k_ ≠ (v680 : Value).ownBlock ∧ k_ ≠ gb682) u5 x5_1) := ⟨h2_⟩
          have n3_ : Aside0 (w13.heap[gb682]? = some (.cells #[.int .i64 0, .slice none 0 0, .int .i64 0, .slice none 0 0] 44 (0, 0))) := ⟨h3_⟩
          have n4_ : Aside0 (w.heap.size ≤ gb682) := ⟨h4_⟩
          have n5_ : Aside0 (w.heap.size ≤ gb682) := ⟨h5_⟩
          have n6_ : Aside0 (Below w.heap.size w w13) := ⟨h6_⟩
          clear HO_5
          clear HB
          clear h0_ h1_ h2_ h3_ h4_ h5_ h6_
          have HO676 := n0_
          have HO681 := n1_
          have HO_5 := n2_
          have BK682 := n3_
          have GW682 := n4_
          have GE682 := n5_
          have HB := n6_
          clear n0_ n1_ n2_ n3_ n4_ n5_ n6_
          have hHeld : w13.cell? (ad672.add ((x6_1).toNat * 4)) = some (.int .i64 ((rd_T44 l1 x6_1).f0.f0)) ∧ w13.cell? ⟨(ad672.add ((x6_1).toNat * 4)).block, (ad672.add ((x6_1).toNat * 4)).off + 1, none⟩ = some (.slice A672_1 ((rd_T44 l1 x6_1).f0.f1).length c672_1) ∧ w13.cell? ⟨(ad672.add ((x6_1).toNat * 4)).block, (ad672.add ((x6_1).toNat * 4)).off + 2, none⟩ = some (.int .i64 ((rd_T44 l1 x6_1).f1.f0)) ∧ w13.cell? ⟨(ad672.add ((x6_1).toNat * 4)).block, (ad672.add ((x6_1).toNat * 4)).off + 3, none⟩ = some (.slice A672_3 ((rd_T44 l1 x6_1).f1.f1).length c672_3) ∧ w13.cell? (ad672.add ((x6_1).toNat * 4)) = some (.int .i64 ((rd_T44 l1 x6_1).f0.f0)) ∧ w13.cell? ⟨(ad672.add ((x6_1).toNat * 4)).block, (ad672.add ((x6_1).toNat * 4)).off + 1, none⟩ = some (.slice A672_1 ((rd_T44 l1 x6_1).f0.f1).length c672_1) ∧ w13.cell? ⟨(ad672.add ((x6_1).toNat * 4)).block, (ad672.add ((x6_1).toNat * 4)).off + 2, none⟩ = some (.int .i64 ((rd_T44 l1 x6_1).f1.f0)) ∧ w13.cell? ⟨(ad672.add ((x6_1).toNat * 4)).block, (ad672.add ((x6_1).toNat * 4)).off + 3, none⟩ = some (.slice A672_3 ((rd_T44 l1 x6_1).f1.f1).length c672_3) := hS_
          obtain ⟨Ao14, co14, eo14⟩ := Kd.R_slice HO681.out
          (first | subst eo14 | (injection eo14 with f1_ f2_ f3_; have f4_ := f1_.symm; have f5_ := f3_.symm; clear f1_ f2_ f3_; subst f4_; subst f5_))
          obtain ⟨Ao15, co15, eo15⟩ := Kd.R_slice HO676.out
          (first | subst eo15 | (injection eo15 with f1_ f2_ f3_; have f4_ := f1_.symm; have f5_ := f3_.symm; clear f1_ f2_ f3_; subst f4_; subst f5_))
          refine norm_ (a' := ?_) ?_ ?_
          rotate_left
          · simp only [putAll, Act.put, List.setIfInBounds_toArray, List.set_cons_zero, List.set_cons_succ]
            rfl
          refine one_ (i := 14) (N := none) #[true, true, true, true, true, true, true, true, true, true, true, true, true, true, true] rfl rfl (one_of HT_.out (by kernel_rfl)) (by decide) (fun K hK => ?_)
          have hs16 : w13.cell? ⟨gb682, 0, none⟩ = some (.int .i64 0) := (blk_cell BK682.out 0).trans rfl
          have hfs16 := blk_frozen BK682.out 0
          have hs17 : w13.cell? ⟨gb682, 1, none⟩ = some (.slice none 0 0) := (blk_cell BK682.out 1).trans rfl
          have hfs17 := blk_frozen BK682.out 1
          have hs18 : w13.cell? ⟨gb682, 2, none⟩ = some (.int .i64 0) := (blk_cell BK682.out 2).trans rfl
          have hfs18 := blk_frozen BK682.out 2
          have hs19 : w13.cell? ⟨gb682, 3, none⟩ = some (.slice none 0 0) := (blk_cell BK682.out 3).trans rfl
          have hfs19 := blk_frozen BK682.out 3
          refine skip_ (w1 := ?_) (by rfl) rfl ?_ ?_
          rotate_left
          · go_simp
            rfl
          refine hK.out _ _ ⟨((cell_far (p := ⟨gb682, _, none⟩) (by first | exact Nat.ne_of_lt (Nat.lt_of_lt_of_le (by have := World.block_lt_of_cell? _ _ hw672_0; first | rwa [add_block] at this | exact this) GW682.out) | (rw [add_block]; exact Nat.ne_of_lt (Nat.lt_of_lt_of_le (by have := World.block_lt_of_cell? _ _ hw672_0; first | rwa [add_block] at this | exact this) GW682.out)) | (show (Addr.add _ _).block ≠ _; rw [add_block]; exact Nat.ne_of_lt (Nat.lt_of_lt_of_le (by have := World.block_lt_of_cell? _ _ hw672_0; first | rwa [add_block] at this | exact this) GW682.out)) | (dsimp only; exact Nat.ne_of_lt (Nat.lt_of_lt_of_le (by have := World.block_lt_of_cell? _ _ hw672_0; first | rwa [add_block] at this | exact this) GW682.out))) _).trans (((cell_far (p := ⟨gb682, _, none⟩) (by first | exact Nat.ne_of_lt (Nat.lt_of_lt_of_le (by have := World.block_lt_of_cell? _ _ hw672_0; first | rwa [add_block] at this | exact this) GW682.out) | (rw [add_block]; exact Nat.ne_of_lt (Nat.lt_of_lt_of_le (by have := World.block_lt_of_cell? _ _ hw672_0; first | rwa [add_block] at this | exact this) GW682.out)) | (show (Addr.add _ _).block ≠ _; rw [add_block]; exact Nat.ne_of_lt (Nat.lt_of_lt_of_le (by have := World.block_lt_of_cell? _ _ hw672_0; first | rwa [add_block] at this | exact this) GW682.out)) | (dsimp only; exact Nat.ne_of_lt (Nat.lt_of_lt_of_le (by have := World.block_lt_of_cell? _ _ hw672_0; first | rwa [add_block] at this | exact this) GW682.out))) _).trans (((cell_far (p := ⟨gb682, _, none⟩) (by first | exact Nat.ne_of_lt (Nat.lt_of_lt_of_le (by have := World.block_lt_of_cell? _ _ hw672_0; first | rwa [add_block] at this | exact this) GW682.out) | (rw [add_block]; exact Nat.ne_of_lt (Nat.lt_of_lt_of_le (by have := World.block_lt_of_cell? _ _ hw672_0; first | rwa [add_block] at this | exact this) GW682.out)) | (show (Addr.add _ _).block ≠ _; rw [add_block]; exact Nat.ne_of_lt (Nat.lt_of_lt_of_le (by have := World.block_lt_of_cell? _ _ hw672_0; first | rwa [add_block] at this | exact this) GW682.out)) | (dsimp only; exact Nat.ne_of_lt (Nat.lt_of_lt_of_le (by have := World.block_lt_of_cell? _ _ hw672_0; first | rwa [add_block] at this | exact this) GW682.out))) _).trans (((cell_far (p := ⟨gb682, _, none⟩) (by first | exact Nat.ne_of_lt (Nat.lt_of_lt_of_le (by have := World.block_lt_of_cell? _ _ hw672_0; first | rwa [add_block] at this | exact this) GW682.out) | (rw [add_block]; exact Nat.ne_of_lt (Nat.lt_of_lt_of_le (by have := World.block_lt_of_cell? _ _ hw672_0; first | rwa [add_block] at this | exact this) GW682.out)) | (show (Addr.add _ _).block ≠ _; rw [add_block]; exact Nat.ne_of_lt (Nat.lt_of_lt_of_le (by have := World.block_lt_of_cell? _ _ hw672_0; first | rwa [add_block] at this | exact this) GW682.out)) | (dsimp only; exact Nat.ne_of_lt (Nat.lt_of_lt_of_le (by have := World.block_lt_of_cell? _ _ hw672_0; first | rwa [add_block] at this | exact this) GW682.out))) _).trans (hHeld.1)))))))), ((cell_far (p := ⟨gb682, _, none⟩) (by first | exact Nat.ne_of_lt (Nat.lt_of_lt_of_le (by have := World.block_lt_of_cell? _ _ hw672_1; first | rwa [add_block] at this | exact this) GW682.out) | (rw [add_block]; exact Nat.ne_of_lt (Nat.lt_of_lt_of_le (by have := World.block_lt_of_cell? _ _ hw672_1; first | rwa [add_block] at this | exact this) GW682.out)) | (show (Addr.add _ _).block ≠ _; rw [add_block]; exact Nat.ne_of_lt (Nat.lt_of_lt_of_le (by have := World.block_lt_of_cell? _ _ hw672_1; first | rwa [add_block] at this | exact this) GW682.out)) | (dsimp only; exact Nat.ne_of_lt (Nat.lt_of_lt_of_le (by have := World.block_lt_of_cell? _ _ hw672_1; first | rwa [add_block] at this | exact this) GW682.out))) _).trans (((cell_far (p := ⟨gb682, _, none⟩) (by first | exact Nat.ne_of_lt (Nat.lt_of_lt_of_le (by have := World.block_lt_of_cell? _ _ hw672_1; first | rwa [add_block] at this | exact this) GW682.out) | (rw [add_block]; exact Nat.ne_of_lt (Nat.lt_of_lt_of_le (by have := World.block_lt_of_cell? _ _ hw672_1; first | rwa [add_block] at this | exact this) GW682.out)) | (show (Addr.add _ _).block ≠ _; rw [add_block]; exact Nat.ne_of_lt (Nat.lt_of_lt_of_le (by have := World.block_lt_of_cell? _ _ hw672_1; first | rwa [add_block] at this | exact this) GW682.out)) | (dsimp only; exact Nat.ne_of_lt (Nat.lt_of_lt_of_le (by have := World.block_lt_of_cell? _ _ hw672_1; first | rwa [add_block] at this | exact this) GW682.out))) _).trans (((cell_far (p := ⟨gb682, _, none⟩) (by first | exact Nat.ne_of_lt (Nat.lt_of_lt_of_le (by have := World.block_lt_of_cell? _ _ hw672_1; first | rwa [add_block] at this | exact this) GW682.out) | (rw [add_block]; exact Nat.ne_of_lt (Nat.lt_of_lt_of_le (by have := World.block_lt_of_cell? _ _ hw672_1; first | rwa [add_block] at this | exact this) GW682.out)) | (show (Addr.add _ _).block ≠ _; rw [add_block]; exact Nat.ne_of_lt (Nat.lt_of_lt_of_le (by have := World.block_lt_of_cell? _ _ hw672_1; first | rwa [add_block] at this | exact this) GW682.out)) | (dsimp only; exact Nat.ne_of_lt (Nat.lt_of_lt_of_le (by have := World.block_lt_of_cell? _ _ hw672_1; first | rwa [add_block] at this | exact this) GW682.out))) _).trans (((cell_far (p := ⟨gb682, _, none⟩) (by first | exact Nat.ne_of_lt (Nat.lt_of_lt_of_le (by have := World.block_lt_of_cell? _ _ hw672_1; first | rwa [add_block] at this | exact this) GW682.out) | (rw [add_block]; exact Nat.ne_of_lt (Nat.lt_of_lt_of_le (by have := World.block_lt_of_cell? _ _ hw672_1; first | rwa [add_block] at this | exact this) GW682.out)) | (show (Addr.add _ _).block ≠ _; rw [add_block]; exact Nat.ne_of_lt (Nat.lt_of_lt_of_le (by have := World.block_lt_of_cell? _ _ hw672_1; first | rwa [add_block] at this | exact this) GW682.out)) | (dsimp only; exact Nat.ne_of_lt (Nat.lt_of_lt_of_le (by have := World.block_lt_of_cell? _ _ hw672_1; first | rwa [add_block] at this | exact this) GW682.out))) _).trans (hHeld.2.1)))))))), ((cell_far (p := ⟨gb682, _, none⟩) (by first | exact Nat.ne_of_lt (Nat.lt_of_lt_of_le (by have := World.block_lt_of_cell? _ _ hw672_2; first | rwa [add_block] at this | exact this) GW682.out) | (rw [add_block]; exact Nat.ne_of_lt (Nat.lt_of_lt_of_le (by have := World.block_lt_of_cell? _ _ hw672_2; first | rwa [add_block] at this | exact this) GW682.out)) | (show (Addr.add _ _).block ≠ _; rw [add_block]; exact Nat.ne_of_lt (Nat.lt_of_lt_of_le (by have := World.block_lt_of_cell? _ _ hw672_2; first | rwa [add_block] at this | exact this) GW682.out)) | (dsimp only; exact Nat.ne_of_lt (Nat.lt_of_lt_of_le (by have := World.block_lt_of_cell? _ _ hw672_2; first | rwa [add_block] at this | exact this) GW682.out))) _).trans (((cell_far (p := ⟨gb682, _, none⟩) (by first | exact Nat.ne_of_lt (Nat.lt_of_lt_of_le (by have := World.block_lt_of_cell? _ _ hw672_2; first | rwa [add_block] at this | exact this) GW682.out) | (rw [add_block]; exact Nat.ne_of_lt (Nat.lt_of_lt_of_le (by have := World.block_lt_of_cell? _ _ hw672_2; first | rwa [add_block] at this | exact this) GW682.out)) | (show (Addr.add _ _).block ≠ _; rw [add_block]; exact Nat.ne_of_lt (Nat.lt_of_lt_of_le (by have := World.block_lt_of_cell? _ _ hw672_2; first | rwa [add_block] at this | exact this) GW682.out)) | (dsimp only; exact Nat.ne_of_lt (Nat.lt_of_lt_of_le (by have := World.block_lt_of_cell? _ _ hw672_2; first | rwa [add_block] at this | exact this) GW682.out))) _).trans (((cell_far (p := ⟨gb682, _, none⟩) (by first | exact Nat.ne_of_lt (Nat.lt_of_lt_of_le (by have := World.block_lt_of_cell? _ _ hw672_2; first | rwa [add_block] at this | exact this) GW682.out) | (rw [add_block]; exact Nat.ne_of_lt (Nat.lt_of_lt_of_le (by have := World.block_lt_of_cell? _ _ hw672_2; first | rwa [add_block] at this | exact this) GW682.out)) | (show (Addr.add _ _).block ≠ _; rw [add_block]; exact Nat.ne_of_lt (Nat.lt_of_lt_of_le (by have := World.block_lt_of_cell? _ _ hw672_2; first | rwa [add_block] at this | exact this) GW682.out)) | (dsimp only; exact Nat.ne_of_lt (Nat.lt_of_lt_of_le (by have := World.block_lt_of_cell? _ _ hw672_2; first | rwa [add_block] at this | exact this) GW682.out))) _).trans (((cell_far (p := ⟨gb682, _, none⟩) (by first | exact Nat.ne_of_lt (Nat.lt_of_lt_of_le (by have := World.block_lt_of_cell? _ _ hw672_2; first | rwa [add_block] at this | exact this) GW682.out) | (rw [add_block]; exact Nat.ne_of_lt (Nat.lt_of_lt_of_le (by have := World.block_lt_of_cell? _ _ hw672_2; first | rwa [add_block] at this | exact this) GW682.out)) | (show (Addr.add _ _).block ≠ _; rw [add_block]; exact Nat.ne_of_lt (Nat.lt_of_lt_of_le (by have := World.block_lt_of_cell? _ _ hw672_2; first | rwa [add_block] at this | exact this) GW682.out)) | (dsimp only; exact Nat.ne_of_lt (Nat.lt_of_lt_of_le (by have := World.block_lt_of_cell? _ _ hw672_2; first | rwa [add_block] at this | exact this) GW682.out))) _).trans (hHeld.2.2.1)))))))), ((cell_far (p := ⟨gb682, _, none⟩) (by first | exact Nat.ne_of_lt (Nat.lt_of_lt_of_le (by have := World.block_lt_of_cell? _ _ hw672_3; first | rwa [add_block] at this | exact this) GW682.out) | (rw [add_block]; exact Nat.ne_of_lt (Nat.lt_of_lt_of_le (by have := World.block_lt_of_cell? _ _ hw672_3; first | rwa [add_block] at this | exact this) GW682.out)) | (show (Addr.add _ _).block ≠ _; rw [add_block]; exact Nat.ne_of_lt (Nat.lt_of_lt_of_le (by have := World.block_lt_of_cell? _ _ hw672_3; first | rwa [add_block] at this | exact this) GW682.out)) | (dsimp only; exact Nat.ne_of_lt (Nat.lt_of_lt_of_le (by have := World.block_lt_of_cell? _ _ hw672_3; first | rwa [add_block] at this | exact this) GW682.out))) _).trans (((cell_far (p := ⟨gb682, _, none⟩) (by first | exact Nat.ne_of_lt (Nat.lt_of_lt_of_le (by have := World.block_lt_of_cell? _ _ hw672_3; first | rwa [add_block] at this | exact this) GW682.out) | (rw [add_block]; exact Nat.ne_of_lt (Nat.lt_of_lt_of_le (by have := World.block_lt_of_cell? _ _ hw672_3; first | rwa [add_block] at this | exact this) GW682.out)) | (show (Addr.add _ _).block ≠ _; rw [add_block]; exact Nat.ne_of_lt (Nat.lt_of_lt_of_le (by have := World.block_lt_of_cell? _ _ hw672_3; first | rwa [add_block] at this | exact this) GW682.out)) | (dsimp only; exact Nat.ne_of_lt (Nat.lt_of_lt_of_le (by have := World.block_lt_of_cell? _ _ hw672_3; first | rwa [add_block] at this | exact this) GW682.out))) _).trans (((cell_far (p := ⟨gb682, _, none⟩) (by first | exact Nat.ne_of_lt (Nat.lt_of_lt_of_le (by have := World.block_lt_of_cell? _ _ hw672_3; first | rwa [add_block] at this | exact this) GW682.out) | (rw [add_block]; exact Nat.ne_of_lt (Nat.lt_of_lt_of_le (by have := World.block_lt_of_cell? _ _ hw672_3; first | rwa [add_block] at this | exact this) GW682.out)) | (show (Addr.add _ _).block ≠ _; rw [add_block]; exact Nat.ne_of_lt (Nat.lt_of_lt_of_le (by have := World.block_lt_of_cell? _ _ hw672_3; first | rwa [add_block] at this | exact this) GW682.out)) | (dsimp only; exact Nat.ne_of_lt (Nat.lt_of_lt_of_le (by have := World.block_lt_of_cell? _ _ hw672_3; first | rwa [add_block] at this | exact this) GW682.out))) _).trans (((cell_far (p := ⟨gb682, _, none⟩) (by first | exact Nat.ne_of_lt (Nat.lt_of_lt_of_le (by have := World.block_lt_of_cell? _ _ hw672_3; first | rwa [add_block] at this | exact this) GW682.out) | (rw [add_block]; exact Nat.ne_of_lt (Nat.lt_of_lt_of_le (by have := World.block_lt_of_cell? _ _ hw672_3; first | rwa [add_block] at this | exact this) GW682.out)) | (show (Addr.add _ _).block ≠ _; rw [add_block]; exact Nat.ne_of_lt (Nat.lt_of_lt_of_le (by have := World.block_lt_of_cell? _ _ hw672_3; first | rwa [add_block] at this | exact this) GW682.out)) | (dsimp only; exact Nat.ne_of_lt (Nat.lt_of_lt_of_le (by have := World.block_lt_of_cell? _ _ hw672_3; first | rwa [add_block] at this | exact this) GW682.out))) _).trans (hHeld.2.2.2.1)))))))), ((cell_far (p := ⟨gb682, _, none⟩) (by first | exact Nat.ne_of_lt (Nat.lt_of_lt_of_le (by have := World.block_lt_of_cell? _ _ hw677_0; first | rwa [add_block] at this | exact this) GW682.out) | (rw [add_block]; exact Nat.ne_of_lt (Nat.lt_of_lt_of_le (by have := World.block_lt_of_cell? _ _ hw677_0; first | rwa [add_block] at this | exact this) GW682.out)) | (show (Addr.add _ _).block ≠ _; rw [add_block]; exact Nat.ne_of_lt (Nat.lt_of_lt_of_le (by have := World.block_lt_of_cell? _ _ hw677_0; first | rwa [add_block] at this | exact this) GW682.out)) | (dsimp only; exact Nat.ne_of_lt (Nat.lt_of_lt_of_le (by have := World.block_lt_of_cell? _ _ hw677_0; first | rwa [add_block] at this | exact this) GW682.out))) _).trans (((cell_far (p := ⟨gb682, _, none⟩) (by first | exact Nat.ne_of_lt (Nat.lt_of_lt_of_le (by have := World.block_lt_of_cell? _ _ hw677_0; first | rwa [add_block] at this | exact this) GW682.out) | (rw [add_block]; exact Nat.ne_of_lt (Nat.lt_of_lt_of_le (by have := World.block_lt_of_cell? _ _ hw677_0; first | rwa [add_block] at this | exact this) GW682.out)) | (show (Addr.add _ _).block ≠ _; rw [add_block]; exact Nat.ne_of_lt (Nat.lt_of_lt_of_le (by have := World.block_lt_of_cell? _ _ hw677_0; first | rwa [add_block] at this | exact this) GW682.out)) | (dsimp only; exact Nat.ne_of_lt (Nat.lt_of_lt_of_le (by have := World.block_lt_of_cell? _ _ hw677_0; first | rwa [add_block] at this | exact this) GW682.out))) _).trans (((cell_far (p := ⟨gb682, _, none⟩) (by first | exact Nat.ne_of_lt (Nat.lt_of_lt_of_le (by have := World.block_lt_of_cell? _ _ hw677_0; first | rwa [add_block] at this | exact this) GW682.out) | (rw [add_block]; exact Nat.ne_of_lt (Nat.lt_of_lt_of_le (by have := World.block_lt_of_cell? _ _ hw677_0; first | rwa [add_block] at this | exact this) GW682.out)) | (show (Addr.add _ _).block ≠ _; rw [add_block]; exact Nat.ne_of_lt (Nat.lt_of_lt_of_le (by have := World.block_lt_of_cell? _ _ hw677_0; first | rwa [add_block] at this | exact this) GW682.out)) | (dsimp only; exact Nat.ne_of_lt (Nat.lt_of_lt_of_le (by have := World.block_lt_of_cell? _ _ hw677_0; first | rwa [add_block] at this | exact this) GW682.out))) _).trans (((cell_far (p := ⟨gb682, _, none⟩) (by first | exact Nat.ne_of_lt (Nat.lt_of_lt_of_le (by have := World.block_lt_of_cell? _ _ hw677_0; first | rwa [add_block] at this | exact this) GW682.out) | (rw [add_block]; exact Nat.ne_of_lt (Nat.lt_of_lt_of_le (by have := World.block_lt_of_cell? _ _ hw677_0; first | rwa [add_block] at this | exact this) GW682.out)) | (show (Addr.add _ _).block ≠ _; rw [add_block]; exact Nat.ne_of_lt (Nat.lt_of_lt_of_le (by have := World.block_lt_of_cell? _ _ hw677_0; first | rwa [add_block] at this | exact this) GW682.out)) | (dsimp only; exact Nat.ne_of_lt (Nat.lt_of_lt_of_le (by have := World.block_lt_of_cell? _ _ hw677_0; first | rwa [add_block] at this | exact this) GW682.out))) _).trans (hHeld.2.2.2.2.1)))))))), ((cell_far (p := ⟨gb682, _, none⟩) (by first | exact Nat.ne_of_lt (Nat.lt_of_lt_of_le (by have := World.block_lt_of_cell? _ _ hw677_1; first | rwa [add_block] at this | exact this) GW682.out) | (rw [add_block]; exact Nat.ne_of_lt (Nat.lt_of_lt_of_le (by have := World.block_lt_of_cell? _ _ hw677_1; first | rwa [add_block] at this | exact this) GW682.out)) | (show (Addr.add _ _).block ≠ _; rw [add_block]; exact Nat.ne_of_lt (Nat.lt_of_lt_of_le (by have := World.block_lt_of_cell? _ _ hw677_1; first | rwa [add_block] at this | exact this) GW682.out)) | (dsimp only; exact Nat.ne_of_lt (Nat.lt_of_lt_of_le (by have := World.block_lt_of_cell? _ _ hw677_1; first | rwa [add_block] at this | exact this) GW682.out))) _).trans (((cell_far (p := ⟨gb682, _, none⟩) (by first | exact Nat.ne_of_lt (Nat.lt_of_lt_of_le (by have := World.block_lt_of_cell? _ _ hw677_1; first | rwa [add_block] at this | exact this) GW682.out) | (rw [add_block]; exact Nat.ne_of_lt (Nat.lt_of_lt_of_le (by have := World.block_lt_of_cell? _ _ hw677_1; first | rwa [add_block] at this | exact this) GW682.out)) | (show (Addr.add _ _).block ≠ _; rw [add_block]; exact Nat.ne_of_lt (Nat.lt_of_lt_of_le (by have := World.block_lt_of_cell? _ _ hw677_1; first | rwa [add_block] at this | exact this) GW682.out)) | (dsimp only; exact Nat.ne_of_lt (Nat.lt_of_lt_of_le (by have := World.block_lt_of_cell? _ _ hw677_1; first | rwa [add_block] at this | exact this) GW682.out))) _).trans (((cell_far (p := ⟨gb682, _, none⟩) (by first | exact Nat.ne_of_lt (Nat.lt_of_lt_of_le (by have := World.block_lt_of_cell? _ _ hw677_1; first | rwa [add_block] at this | exact this) GW682.out) | (rw [add_block]; exact Nat.ne_of_lt (Nat.lt_of_lt_of_le (by have := World.block_lt_of_cell? _ _ hw677_1; first | rwa [add_block] at this | exact this) GW682.out)) | (show (Addr.add _ _).block ≠ _; rw [add_block]; exact Nat.ne_of_lt (Nat.lt_of_lt_of_le (by have := World.block_lt_of_cell? _ _ hw677_1; first | rwa [add_block] at this | exact this) GW682.out)) | (dsimp only; exact Nat.ne_of_lt (Nat.lt_of_lt_of_le (by have := World.block_lt_of_cell? _ _ hw677_1; first | rwa [add_block] at this | exact this) GW682.out))) _).trans (((cell_far (p := ⟨gb682, _, none⟩) (by first | exact Nat.ne_of_lt (Nat.lt_of_lt_of_le (by have := World.block_lt_of_cell? _ _ hw677_1; first | rwa [add_block] at this | exact this) GW682.out) | (rw [add_block]; exact Nat.ne_of_lt (Nat.lt_of_lt_of_le (by have := World.block_lt_of_cell? _ _ hw677_1; first | rwa [add_block] at this | exact this) GW682.out)) | (show (Addr.add _ _).block ≠ _; rw [add_block]; exact Nat.ne_of_lt (Nat.lt_of_lt_of_le (by have := World.block_lt_of_cell? _ _ hw677_1; first | rwa [add_block] at this | exact this) GW682.out)) | (dsimp only; exact Nat.ne_of_lt (Nat.lt_of_lt_of_le (by have := World.block_lt_of_cell? _ _ hw677_1; first | rwa [add_block] at this | exact this) GW682.out))) _).trans (hHeld.2.2.2.2.2.1)))))))), ((cell_far (p := ⟨gb682, _, none⟩) (by first | exact Nat.ne_of_lt (Nat.lt_of_lt_of_le (by have := World.block_lt_of_cell? _ _ hw677_2; first | rwa [add_block] at this | exact this) GW682.out) | (rw [add_block]; exact Nat.ne_of_lt (Nat.lt_of_lt_of_le (by have := World.block_lt_of_cell? _ _ hw677_2; first | rwa [add_block] at this | exact this) GW682.out)) | (show (Addr.add _ _).block ≠ _; rw [add_block]; exact Nat.ne_of_lt (Nat.lt_of_lt_of_le (by have := World.block_lt_of_cell? _ _ hw677_2; first | rwa [add_block] at this | exact this) GW682.out)) | (dsimp only; exact Nat.ne_of_lt (Nat.lt_of_lt_of_le (by have := World.block_lt_of_cell? _ _ hw677_2; first | rwa [add_block] at this | exact this) GW682.out))) _).trans (((cell_far (p := ⟨gb682, _, none⟩) (by first | exact Nat.ne_of_lt (Nat.lt_of_lt_of_le (by have := World.block_lt_of_cell? _ _ hw677_2; first | rwa [add_block] at this | exact this) GW682.out) | (rw [add_block]; exact Nat.ne_of_lt (Nat.lt_of_lt_of_le (by have := World.block_lt_of_cell? _ _ hw677_2; first | rwa [add_block] at this | exact this) GW682.out)) | (show (Addr.add _ _).block ≠ _; rw [add_block]; exact Nat.ne_of_lt (Nat.lt_of_lt_of_le (by have := World.block_lt_of_cell? _ _ hw677_2; first | rwa [add_block] at this | exact this) GW682.out)) | (dsimp only; exact Nat.ne_of_lt (Nat.lt_of_lt_of_le (by have := World.block_lt_of_cell? _ _ hw677_2; first | rwa [add_block] at this | exact this) GW682.out))) _).trans (((cell_far (p := ⟨gb682, _, none⟩) (by first | exact Nat.ne_of_lt (Nat.lt_of_lt_of_le (by have := World.block_lt_of_cell? _ _ hw677_2; first | rwa [add_block] at this | exact this) GW682.out) | (rw [add_block]; exact Nat.ne_of_lt (Nat.lt_of_lt_of_le (by have := World.block_lt_of_cell? _ _ hw677_2; first | rwa [add_block] at this | exact this) GW682.out)) | (show (Addr.add _ _).block ≠ _; rw [add_block]; exact Nat.ne_of_lt (Nat.lt_of_lt_of_le (by have := World.block_lt_of_cell? _ _ hw677_2; first | rwa [add_block] at this | exact this) GW682.out)) | (dsimp only; exact Nat.ne_of_lt (Nat.lt_of_lt_of_le (by have := World.block_lt_of_cell? _ _ hw677_2; first | rwa [add_block] at this | exact this) GW682.out))) _).trans (((cell_far (p := ⟨gb682, _, none⟩) (by first | exact Nat.ne_of_lt (Nat.lt_of_lt_of_le (by have := World.block_lt_of_cell? _ _ hw677_2; first | rwa [add_block] at this | exact this) GW682.out) | (rw [add_block]; exact Nat.ne_of_lt (Nat.lt_of_lt_of_le (by have := World.block_lt_of_cell? _ _ hw677_2; first | rwa [add_block] at this | exact this) GW682.out)) | (show (Addr.add _ _).block ≠ _; rw [add_block]; exact Nat.ne_of_lt (Nat.lt_of_lt_of_le (by have := World.block_lt_of_cell? _ _ hw677_2; first | rwa [add_block] at this | exact this) GW682.out)) | (dsimp only; exact Nat.ne_of_lt (Nat.lt_of_lt_of_le (by have := World.block_lt_of_cell? _ _ hw677_2; first | rwa [add_block] at this | exact this) GW682.out))) _).trans (hHeld.2.2.2.2.2.2.1)))))))), ((cell_far (p := ⟨gb682, _, none⟩) (by first | exact Nat.ne_of_lt (Nat.lt_of_lt_of_le (by have := World.block_lt_of_cell? _ _ hw677_3; first | rwa [add_block] at this | exact this) GW682.out) | (rw [add_block]; exact Nat.ne_of_lt (Nat.lt_of_lt_of_le (by have := World.block_lt_of_cell? _ _ hw677_3; first | rwa [add_block] at this | exact this) GW682.out)) | (show (Addr.add _ _).block ≠ _; rw [add_block]; exact Nat.ne_of_lt (Nat.lt_of_lt_of_le (by have := World.block_lt_of_cell? _ _ hw677_3; first | rwa [add_block] at this | exact this) GW682.out)) | (dsimp only; exact Nat.ne_of_lt (Nat.lt_of_lt_of_le (by have := World.block_lt_of_cell? _ _ hw677_3; first | rwa [add_block] at this | exact this) GW682.out))) _).trans (((cell_far (p := ⟨gb682, _, none⟩) (by first | exact Nat.ne_of_lt (Nat.lt_of_lt_of_le (by have := World.block_lt_of_cell? _ _ hw677_3; first | rwa [add_block] at this | exact this) GW682.out) | (rw [add_block]; exact Nat.ne_of_lt (Nat.lt_of_lt_of_le (by have := World.block_lt_of_cell? _ _ hw677_3; first | rwa [add_block] at this | exact this) GW682.out)) | (show (Addr.add _ _).block ≠ _; rw [add_block]; exact Nat.ne_of_lt (Nat.lt_of_lt_of_le (by have := World.block_lt_of_cell? _ _ hw677_3; first | rwa [add_block] at this | exact this) GW682.out)) | (dsimp only; exact Nat.ne_of_lt (Nat.lt_of_lt_of_le (by have := World.block_lt_of_cell? _ _ hw677_3; first | rwa [add_block] at this | exact this) GW682.out))) _).trans (((cell_far (p := ⟨gb682, _, none⟩) (by first | exact Nat.ne_of_lt (Nat.lt_of_lt_of_le (by have := World.block_lt_of_cell? _ _ hw677_3; first | rwa [add_block] at this | exact this) GW682.out) | (rw [add_block]; exact Nat.ne_of_lt (Nat.lt_of_lt_of_le (by have := World.block_lt_of_cell? _ _ hw677_3; first | rwa [add_block] at this | exact this) GW682.out)) | (show (Addr.add _ _).block ≠ _; rw [add_block]; exact Nat.ne_of_lt (Nat.lt_of_lt_of_le (by have := World.block_lt_of_cell? _ _ hw677_3; first | rwa [add_block] at this | exact this) GW682.out)) | (dsimp only; exact Nat.ne_of_lt (Nat.lt_of_lt_of_le (by have := World.block_lt_of_cell? _ _ hw677_3; first | rwa [add_block] at this | exact this) GW682.out))) _).trans (((cell_far (p := ⟨gb682, _, none⟩) (by first | exact Nat.ne_of_lt (Nat.lt_of_lt_of_le (by have := World.block_lt_of_cell? _ _ hw677_3; first | rwa [add_block] at this | exact this) GW682.out) | (rw [add_block]; exact Nat.ne_of_lt (Nat.lt_of_lt_of_le (by have := World.block_lt_of_cell? _ _ hw677_3; first | rwa [add_block] at this | exact this) GW682.out)) | (show (Addr.add _ _).block ≠ _; rw [add_block]; exact Nat.ne_of_lt (Nat.lt_of_lt_of_le (by have := World.block_lt_of_cell? _ _ hw677_3; first | rwa [add_block] at this | exact this) GW682.out)) | (dsimp only; exact Nat.ne_of_lt (Nat.lt_of_lt_of_le (by have := World.block_lt_of_cell? _ _ hw677_3; first | rwa [add_block] at this | exact this) GW682.out))) _).trans (hHeld.2.2.2.2.2.2.2))))))))⟩ (fun hHeld => ?_)
          clear hK K
          refine done_ (done_of HT_.out (by kernel_rfl)) ?_
          try go_wp2
          go_loopg [8] k1 (fun kq v8 w' => ∃ (x8_2 : Int) (x683001_2 : List (S96)) (x683003_2 : List (S96)) (u683001 : Value) (u683003 : Value), v8 = .int .i64 x8_2 ∧ Aside0 (tenetlaw02_turned.l1 kq a0 l1 x5_1 x6_1 x8_2 t673 x683001_2 t678 x683003_2 = some r) ∧ Aside0 (kq ≤ k1) ∧ Aside0 (Kd.S k44 44 w' w.heap.size (fun k_ => some k_ ≠ (u683001 : Value).ownBlock ∧ some k_ ≠ (u683003 : Value).ownBlock ∧ k_ ≠ gb682) u5 x5_1) ∧ Aside0 (Kd.R k96 96 w' w.heap.size (fun k_ => some k_ ≠ (u683003 : Value).ownBlock) u683001 x683001_2) ∧ Aside0 (Kd.R k96 96 w' w.heap.size (fun k_ => some k_ ≠ (u683001 : Value).ownBlock) u683003 x683003_2) ∧ Aside0 (w'.heap[gb682]? = some (.cells #[.int .i64 t673, u683001, .int .i64 t678, u683003] 44 (0, 0))) ∧ Aside0 (Below w.heap.size w w'))
          case atStart => exact ⟨(0), (t674), (t679), (.slice Ao15 t674.length co15), (.slice Ao14 t679.length co14), (by first | rfl | (simp; done) | (simp [*]; done)), H', ⟨Nat.le_refl _⟩, ⟨by (with_reducible repeat (first | apply Kd.S_alloc | apply Kd.S_drewN | apply Kd.S_drew)); exact Kd.S_mono (Kd.S_far (p := ⟨gb682, 3, none⟩) (Kd.S_far (p := ⟨gb682, 2, none⟩) (Kd.S_far (p := ⟨gb682, 1, none⟩) (Kd.S_far (p := ⟨gb682, 0, none⟩) (Kd.S_mono HO_5.out (fun k_ hk => (⟨hk, hk.2.2⟩ : _ ∧ k_ ≠ gb682))) (fun _ hk => hk.2) (.int .i64 t673)) (fun _ hk => hk.2) (.slice Ao15 t674.length co15)) (fun _ hk => hk.2) (.int .i64 t678)) (fun _ hk => hk.2) (.slice Ao14 t679.length co14)) (fun _ hk => ⟨hk.1.1, ⟨hk.1.2.1, hk.1.2.2⟩⟩)⟩, ⟨by (with_reducible repeat (first | apply Kd.R_alloc | apply Kd.R_drewN | apply Kd.R_drew)); exact Kd.R_mono (Kd.R_far (p := ⟨gb682, 3, none⟩) (Kd.R_far (p := ⟨gb682, 2, none⟩) (Kd.R_far (p := ⟨gb682, 1, none⟩) (Kd.R_far (p := ⟨gb682, 0, none⟩) (Kd.R_types HO676.out BK682.out (by decide)) (fun _ hk => hk.2) (.int .i64 t673)) (fun _ hk => hk.2) (.slice Ao15 t674.length co15)) (fun _ hk => hk.2) (.int .i64 t678)) (fun _ hk => hk.2) (.slice Ao14 t679.length co14)) (fun _ hk => hk.1)⟩, ⟨by (with_reducible repeat (first | apply Kd.R_alloc | apply Kd.R_drewN | apply Kd.R_drew)); exact Kd.R_mono (Kd.R_far (p := ⟨gb682, 3, none⟩) (Kd.R_far (p := ⟨gb682, 2, none⟩) (Kd.R_far (p := ⟨gb682, 1, none⟩) (Kd.R_far (p := ⟨gb682, 0, none⟩) (Kd.R_types HO681.out BK682.out (by decide)) (fun _ hk => hk.2) (.int .i64 t673)) (fun _ hk => hk.2) (.slice Ao15 t674.length co15)) (fun _ hk => hk.2) (.int .i64 t678)) (fun _ hk => hk.2) (.slice Ao14 t679.length co14)) (fun _ hk => hk.1)⟩, ⟨by (with_reducible repeat (first | refine blk_drewN ?_ _ | refine blk_drew ?_ | refine blk_alloc ?_ _)); refine blk_put (cs := #[.int .i64 t673, .slice Ao15 t674.length co15, .int .i64 t678, .slice none 0 0]) ?_ 3 _ rfl; (with_reducible repeat (first | refine blk_drewN ?_ _ | refine blk_drew ?_ | refine blk_alloc ?_ _)); refine blk_put (cs := #[.int .i64 t673, .slice Ao15 t674.length co15, .int .i64 0, .slice none 0 0]) ?_ 2 _ rfl; (with_reducible repeat (first | refine blk_drewN ?_ _ | refine blk_drew ?_ | refine blk_alloc ?_ _)); refine blk_put (cs := #[.int .i64 t673, .slice none 0 0, .int .i64 0, .slice none 0 0]) ?_ 1 _ rfl; (with_reducible repeat (first | refine blk_drewN ?_ _ | refine blk_drew ?_ | refine blk_alloc ?_ _)); refine blk_put (cs := #[.int .i64 0, .slice none 0 0, .int .i64 0, .slice none 0 0]) ?_ 0 _ rfl; (with_reducible repeat (first | refine blk_drewN ?_ _ | refine blk_drew ?_ | refine blk_alloc ?_ _)); exact BK682.out⟩, ⟨by repeat (first | (with_reducible first | exact HB.out | apply below_alloc | apply pw_below_drewN | apply below_drew1 | refine below_set ?_ GE682.out) | exact HB.out)⟩⟩
          case round =>
            clear H'
            try clear c1
            try clear p2
            try clear c3
            try clear c3b0
            try clear c4
            try clear c4b0
            try clear c6
            try clear p6
            try clear q6
            try clear hx6
            try clear c7
            try clear hx672_0
            try clear hx672_1
            try clear hx672_2
            try clear hx672_3
            try clear hx677_0
            try clear hx677_1
            try clear hx677_2
            try clear hx677_3
            try clear p2
            try clear p672
            try clear p677
            try clear q672
            try clear q677
            obtain ⟨x8_2, x683001_2, x683003_2, u683001, u683003, rfl, HA, HK2, HO_5, HO_683001, HO_683003, BK682, HB⟩ := hrel
            cases gk with
            | zero => exact absurd HA.out (by simp [tenetlaw02_turned.l1])
            | succ k2 =>
              have H := HA.out
              clear HA
              simp only [tenetlaw02_turned.l1] at H
              by_cases c20 : x8_2 < (x683001_2.length : Int)
              · rw [if_pos c20] at H
                have c20b0 : decide (x8_2 < (x683001_2.length : Int)) = true := decide_eq_true c20
                clear c20
                by_cases c21 : 0 ≤ x8_2
                · rw [if_pos c21] at H
                  have c21b0 : decide (0 ≤ x8_2) = true := decide_eq_true c21
                  clear c21
                  obtain ⟨y684, hy684⟩ : ∃ y_ : List (S96), y_ = (x683001_2.set (x8_2 : Int).toNat (⟨wrap64 ((wrap64 (a0 - 1)) - ((rd_T96 x683001_2 x8_2).f0)), (rd_T96 x683001_2 x8_2).f1⟩ : S96)) := ⟨_, rfl⟩
                  replace H : (tenetlaw02_turned.l1 k2 a0 l1 x5_1 x6_1 (wrap64 (x8_2 + 1)) t673 y684 t678 x683003_2) = some r := by first | (rw [hy684]; with_reducible exact H) | (have H2_ := (Option.bind_some _ _).symm.trans H; rw [hy684]; with_reducible exact H2_) | (have H2_ := (Option.bind_some _ _).symm.trans H; with_reducible exact H2_) | with_reducible exact H | (rw [hy684]; exact H) | exact H
                  have Ny684 := Aside0.mk hy684
                  clear hy684
                  have H' := Aside0.mk H
                  clear H
                  have hcz23_0 : wr.cell? ⟨gb682, 0, none⟩ = some (.int .i64 t673) := (blk_cell BK682.out 0).trans rfl
                  have hcz23_1 : wr.cell? ⟨gb682, 1, none⟩ = some (u683001) := (blk_cell BK682.out 1).trans rfl
                  have hcz23_2 : wr.cell? ⟨gb682, 2, none⟩ = some (.int .i64 t678) := (blk_cell BK682.out 2).trans rfl
                  have hcz23_3 : wr.cell? ⟨gb682, 3, none⟩ = some (u683003) := (blk_cell BK682.out 3).trans rfl
                  have hfz23_0 := blk_frozen BK682.out 0
                  have hfz23_1 := blk_frozen BK682.out 1
                  have hfz23_2 := blk_frozen BK682.out 2
                  have hfz23_3 := blk_frozen BK682.out 3
                  obtain ⟨Ao24, co24, eo24⟩ := Kd.R_slice HO_683001.out
                  subst eo24
                  try go_wp2
                  have n0_ := Aside0.mk (Kd.S_drew HO_5.out)
                  have n1_ := Aside0.mk (Kd.R_drew HO_683001.out)
                  have n2_ := Aside0.mk (Kd.R_drew HO_683003.out)
                  have n3_ := Aside0.mk (blk_drew BK682.out)
                  have n4_ := Aside0.mk (below_drew1 HB.out)
                  clear HO_5
                  clear HO_683001
                  clear HO_683003
                  clear BK682
                  clear HB
                  have HO_5 := n0_
                  have HO_683001 := n1_
                  have HO_683003 := n2_
                  have BK682 := n3_
                  have HB := n4_
                  clear n0_ n1_ n2_ n3_ n4_
                  have p683 : 0 ≤ (x8_2 : Int) := of_decide_eq_true (by first | (with_reducible assumption) | assumption)
                  have q683 : x8_2 < (x683001_2.length : Int) := of_decide_eq_true (by first | (with_reducible assumption) | assumption)
                  obtain ⟨ad683, e683, hx683_0, hx683_1⟩ := at_T96 (Kd.R_reads' HO_683001.out).2.2 x8_2 p683 q683
                  cases e683
                  replace p683 := eq_true p683
                  replace q683 := eq_true q683
                  have p22 : 0 ≤ (x8_2 : Int) := of_decide_eq_true (by first | (with_reducible assumption) | assumption)
                  have q22 : (x8_2 : Int) < ((x683001_2.length : Int) : Int) := of_decide_eq_true (by first | (with_reducible assumption) | assumption)
                  obtain ⟨go22, co22, eo22, gb22, gl22, cl22, HG22⟩ := Kd.R_form HO_683001.out (by omega)
                  (first | cases eo22 | (injection eo22 with ea_ en_ ec_; (first | subst ea_ | (injection ea_ with ea_; subst ea_)); subst ec_; clear en_))
                  have GB22 := Aside0.mk gb22
                  have GG22 := Aside0.mk HG22
                  clear gb22 gl22 HG22
                  (first | simp only [add_plain] at hx683_0 | skip)
                  (first | simp only [add_plain] at hx683_1 | skip)
                  obtain ⟨ce22, hcl22, hM22, hcc22, hfr22⟩ := Kd.R_elem HO_683001.out z96 (x8_2 : Int) p22 q22
                  obtain rfl := k96_openM hM22
                  have hx22_0 : World.cell? _ ⟨go22, (x8_2 : Int).toNat * 2, none⟩ = some (.int .i64 ((rd_T96 x683001_2 x8_2).f0)) := hcc22 0 _ rfl
                  have hx22_1 : World.cell? _ ⟨go22, (x8_2 : Int).toNat * 2 + 1, none⟩ = some (.int .i64 ((rd_T96 x683001_2 x8_2).f1)) := hcc22 1 _ rfl
                  have hf22_0 : World.frozen? _ ⟨go22, (x8_2 : Int).toNat * 2, none⟩ = false := hfr22 0
                  have hf22_1 : World.frozen? _ ⟨go22, (x8_2 : Int).toNat * 2 + 1, none⟩ = false := hfr22 1
                  clear hcl22 hcc22 hfr22 hM22
                  replace p22 := eq_true p22
                  replace q22 := eq_true q22
                  obtain ⟨ce26, hcl26, hM26, hcc26, hfr26⟩ := Kd.R_elem HO_683001.out z96 (x8_2 : Int) (of_decide_eq_true (by first | (with_reducible assumption) | assumption)) (by have h_ : (x8_2 : Int) < ((x683001_2.length : Int) : Int) := of_decide_eq_true (by first | (with_reducible assumption) | assumption); first | exact h_ | (have e_ := (Kd.R_reads' HO_683001.out).1; omega) | simpa using h_)
                  obtain rfl := k96_openM hM26
                  have HP26 := (Kd.R_seg HO_683001.out (x8_2 : Int) (of_decide_eq_true (by first | (with_reducible assumption) | assumption)) (by have h_ : (x8_2 : Int) < ((x683001_2.length : Int) : Int) := of_decide_eq_true (by first | (with_reducible assumption) | assumption); first | exact h_ | (have e_ := (Kd.R_reads' HO_683001.out).1; omega) | simpa using h_) (seg := [.int .i64 (wrap64 ((wrap64 (a0 - 1)) - ((rd_T96 x683001_2 x8_2).f0)))]) (j := 0) hcl26 hcc26 (show 1 ≤ 2 from by decide) (x' := (⟨wrap64 ((wrap64 (a0 - 1)) - ((rd_T96 x683001_2 x8_2).f0)), (rd_T96 x683001_2 x8_2).f1⟩ : S96)) (k96_mkM _ _ _ (⟨wrap64 ((wrap64 (a0 - 1)) - ((rd_T96 x683001_2 x8_2).f0)), (rd_T96 x683001_2 x8_2).f1⟩ : S96) ) (fun _ hk => hk)).1
                  rw [← Ny684.out] at HP26
                  have HQ26 := Aside0.mk HP26
                  clear hcl26 hcc26 hfr26 hM26 HP26
                  refine start_ (n := 17) (S := fun w' => w'.cell? ⟨gb682, 0, none⟩ = some (.int .i64 t673) ∧ w'.cell? ⟨gb682, 1, none⟩ = some (.slice (some ⟨go22, 0, none⟩) x683001_2.length co24) ∧ w'.cell? ⟨gb682, 2, none⟩ = some (.int .i64 t678) ∧ w'.cell? ⟨gb682, 3, none⟩ = some (u683003) ∧ w'.cell? ⟨go22, ((x8_2).toNat * 2), none⟩ = some (.int .i64 ((rd_T96 x683001_2 x8_2).f0)) ∧ w'.cell? ⟨go22, ((x8_2).toNat * 2) + 1, none⟩ = some (.int .i64 ((rd_T96 x683001_2 x8_2).f1))) (ds := [16]) #[false, false, false, false, false, false, false, false, false, false, false, false, false, false, false, false, false] (by kernel_rfl) rfl rfl ⟨(blk_cell BK682.out 0).trans rfl, (blk_cell BK682.out 1).trans rfl, (blk_cell BK682.out 2).trans rfl, (blk_cell BK682.out 3).trans rfl, hx683_0, hx683_1⟩ (fun hHeld => ?_); refine with_tabW tenetlaw02_turned.tab9 tenetlaw02_turned.bits9 (fun HT_ HW_ => ?_)
                  generalize wr.drew = w25 at HO_5 HO_683001 HO_683003 BK682 HB GG22 HQ26 hf22_0 hf22_1 hx22_0 hx22_1 hx683_0 hx683_1 hHeld ⊢
                  refine pure_ (i := 0) (N := some 37) (v := ?_) (a' := ?_) #[true, false, false, false, false, false, false, false, false, false, false, false, false, false, false, false, false] rfl rfl (any_of HT_.out (by kernel_rfl)) (fun _ _ _ h => h) (Or.inl ⟨by rfl, ?_⟩) ?_ ?_
                  rotate_left
                  · intro w'
                    go_simp
                    with_reducible rfl
                  rotate_left
                  · simp only [Act.put, List.setIfInBounds_toArray, List.set_cons_zero, List.set_cons_succ, i64_w, i32_w]
                    rfl
                  refine pure_ (i := 1) (N := some 38) (v := ?_) (a' := ?_) #[true, true, false, false, false, false, false, false, false, false, false, false, false, false, false, false, false] rfl rfl (any_of HT_.out (by kernel_rfl)) (fun _ _ _ h => h) (Or.inl ⟨by rfl, ?_⟩) ?_ ?_
                  rotate_left
                  · intro w'
                    go_simp
                    with_reducible rfl
                  rotate_left
                  · simp only [Act.put, List.setIfInBounds_toArray, List.set_cons_zero, List.set_cons_succ, i64_w, i32_w]
                    rfl
                  refine pure_ (i := 3) (N := some 40) (v := ?_) (a' := ?_) #[true, true, false, true, false, false, false, false, false, false, false, false, false, false, false, false, false] rfl rfl (any_of HT_.out (by kernel_rfl)) (fun _ _ _ h => h) (Or.inl ⟨by rfl, ?_⟩) ?_ ?_
                  rotate_left
                  · intro w'
                    go_simp
                    with_reducible rfl
                  rotate_left
                  · simp only [Act.put, List.setIfInBounds_toArray, List.set_cons_zero, List.set_cons_succ, i64_w, i32_w]
                    rfl
                  refine pure_ (i := 4) (N := some 41) (v := ?_) (a' := ?_) #[true, true, false, true, true, false, false, false, false, false, false, false, false, false, false, false, false] rfl rfl (any_of HT_.out (by kernel_rfl)) (fun _ _ _ h => h) (Or.inl ⟨by rfl, ?_⟩) ?_ ?_
                  rotate_left
                  · intro w'
                    go_simp
                    with_reducible rfl
                  rotate_left
                  · simp only [Act.put, List.setIfInBounds_toArray, List.set_cons_zero, List.set_cons_succ, i64_w, i32_w]
                    rfl
                  refine pure_ (i := 5) (N := some 42) (v := ?_) (a' := ?_) #[true, true, false, true, true, true, false, false, false, false, false, false, false, false, false, false, false] rfl rfl (any_of HT_.out (by kernel_rfl)) (fun _ _ _ h => h) (Or.inl ⟨by rfl, ?_⟩) ?_ ?_
                  rotate_left
                  · intro w'
                    go_simp
                    with_reducible rfl
                  rotate_left
                  · simp only [Act.put, List.setIfInBounds_toArray, List.set_cons_zero, List.set_cons_succ, i64_w, i32_w]
                    rfl
                  refine pure_ (i := 6) (N := some 43) (v := ?_) (a' := ?_) #[true, true, false, true, true, true, true, false, false, false, false, false, false, false, false, false, false] rfl rfl (any_of HT_.out (by kernel_rfl)) (fun _ _ _ h => h) (Or.inl ⟨by rfl, ?_⟩) ?_ ?_
                  rotate_left
                  · intro w'
                    go_simp
                    with_reducible rfl
                  rotate_left
                  · simp only [Act.put, List.setIfInBounds_toArray, List.set_cons_zero, List.set_cons_succ, i64_w, i32_w]
                    rfl
                  refine pure_ (i := 7) (N := some 44) (v := ?_) (a' := ?_) #[true, true, false, true, true, true, true, true, false, false, false, false, false, false, false, false, false] rfl rfl (any_of HT_.out (by kernel_rfl)) (fun _ _ _ h => h) (Or.inl ⟨by rfl, ?_⟩) ?_ ?_
                  rotate_left
                  · intro w'
                    go_simp
                    with_reducible rfl
                  rotate_left
                  · simp only [Act.put, List.setIfInBounds_toArray, List.set_cons_zero, List.set_cons_succ, i64_w, i32_w]
                    rfl
                  refine pure_ (i := 9) (N := some 46) (v := ?_) (a' := ?_) #[true, true, false, true, true, true, true, true, false, true, false, false, false, false, false, false, false] rfl rfl (any_of HT_.out (by kernel_rfl)) (fun _ _ _ h => h) (Or.inl ⟨by rfl, ?_⟩) ?_ ?_
                  rotate_left
                  · intro w'
                    go_simp
                    with_reducible rfl
                  rotate_left
                  · simp only [Act.put, List.setIfInBounds_toArray, List.set_cons_zero, List.set_cons_succ, i64_w, i32_w]
                    rfl
                  refine take_ (i := 2) (N := some 39) (v := ?_) (a' := ?_) #[true, true, true, true, true, true, true, true, false, true, false, false, false, false, false, false, false] rfl rfl (take_ofW HT_.out HW_.out (by kernel_rfl)) (fun _ _ _ h => h) (Or.inl ⟨by rfl, ?_⟩) hHeld ?_ ?_
                  rotate_left
                  · rintro w' ⟨s0, s1, s2, s3, s4, s5⟩
                    go_simp
                    with_reducible rfl
                  rotate_left
                  · simp only [Act.put, List.setIfInBounds_toArray, List.set_cons_zero, List.set_cons_succ, i64_w, i32_w]
                    rfl
                  refine take_ (i := 8) (N := some 45) (v := ?_) (a' := ?_) #[true, true, true, true, true, true, true, true, true, true, false, false, false, false, false, false, false] rfl rfl (take_ofW HT_.out HW_.out (by kernel_rfl)) (fun _ _ _ h => h) (Or.inl ⟨by rfl, ?_⟩) hHeld ?_ ?_
                  rotate_left
                  · rintro w' ⟨s0, s1, s2, s3, s4, s5⟩
                    go_simp
                    with_reducible rfl
                  rotate_left
                  · simp only [Act.put, List.setIfInBounds_toArray, List.set_cons_zero, List.set_cons_succ, i64_w, i32_w]
                    rfl
                  refine pure_ (i := 10) (N := some 47) (v := ?_) (a' := ?_) #[true, true, true, true, true, true, true, true, true, true, true, false, false, false, false, false, false] rfl rfl (any_of HT_.out (by kernel_rfl)) (fun _ _ _ h => h) (Or.inl ⟨by rfl, ?_⟩) ?_ ?_
                  rotate_left
                  · intro w'
                    go_simp
                    with_reducible rfl
                  rotate_left
                  · simp only [Act.put, List.setIfInBounds_toArray, List.set_cons_zero, List.set_cons_succ, i64_w, i32_w]
                    rfl
                  refine pure_ (i := 11) (N := some 48) (v := ?_) (a' := ?_) #[true, true, true, true, true, true, true, true, true, true, true, true, false, false, false, false, false] rfl rfl (any_of HT_.out (by kernel_rfl)) (fun _ _ _ h => h) (Or.inl ⟨by rfl, ?_⟩) ?_ ?_
                  rotate_left
                  · intro w'
                    go_simp
                    with_reducible rfl
                  rotate_left
                  · simp only [Act.put, List.setIfInBounds_toArray, List.set_cons_zero, List.set_cons_succ, i64_w, i32_w]
                    rfl
                  refine take_ (i := 12) (N := some 49) (v := ?_) (a' := ?_) #[true, true, true, true, true, true, true, true, true, true, true, true, true, false, false, false, false] rfl rfl (take_ofW HT_.out HW_.out (by kernel_rfl)) (fun _ _ _ h => h) (Or.inl ⟨by rfl, ?_⟩) hHeld ?_ ?_
                  rotate_left
                  · rintro w' ⟨s0, s1, s2, s3, s4, s5⟩
                    go_simp
                    with_reducible rfl
                  rotate_left
                  · simp only [Act.put, List.setIfInBounds_toArray, List.set_cons_zero, List.set_cons_succ, i64_w, i32_w]
                    rfl
                  refine pure_ (i := 13) (N := some 50) (v := ?_) (a' := ?_) #[true, true, true, true, true, true, true, true, true, true, true, true, true, true, false, false, false] rfl rfl (any_of HT_.out (by kernel_rfl)) (fun _ _ _ h => h) (Or.inl ⟨by rfl, ?_⟩) ?_ ?_
                  rotate_left
                  · intro w'
                    go_simp
                    with_reducible rfl
                  rotate_left
                  · simp only [Act.put, List.setIfInBounds_toArray, List.set_cons_zero, List.set_cons_succ, i64_w, i32_w]
                    rfl
                  refine pure_ (i := 14) (N := some 51) (v := ?_) (a' := ?_) #[true, true, true, true, true, true, true, true, true, true, true, true, true, true, true, false, false] rfl rfl (any_of HT_.out (by kernel_rfl)) (fun _ _ _ h => h) (Or.inl ⟨by rfl, ?_⟩) ?_ ?_
                  rotate_left
                  · intro w'
                    go_simp
                    with_reducible rfl
                  rotate_left
                  · simp only [Act.put, List.setIfInBounds_toArray, List.set_cons_zero, List.set_cons_succ, i64_w, i32_w]
                    rfl
                  refine pure_ (i := 15) (N := some 52) (v := ?_) (a' := ?_) #[true, true, true, true, true, true, true, true, true, true, true, true, true, true, true, true, false] rfl rfl (any_of HT_.out (by kernel_rfl)) (fun _ _ _ h => h) (Or.inl ⟨by rfl, ?_⟩) ?_ ?_
                  rotate_left
                  · intro w'
                    go_simp
                    with_reducible rfl
                  rotate_left
                  · simp only [Act.put, List.setIfInBounds_toArray, List.set_cons_zero, List.set_cons_succ, i64_w, i32_w]
                    rfl
                  refine last_ (i := 16) (N := none) #[true, true, true, true, true, true, true, true, true, true, true, true, true, true, true, true, true] rfl rfl (one_of HT_.out (by kernel_rfl)) (by decide) (fun K hK => ?_)
                  refine skip_ (w1 := ?_) (by rfl) rfl ?_ ?_
                  rotate_left
                  · go_simp
                    rfl
                  refine hK.out _ _ ?_
                  clear hK K
                  refine done_ (done_of HT_.out (by kernel_rfl)) ?_
                  try go_wp2
                  go_roundg k2
                  case measure => have := HK1.out; have := HK2.out; omega
                  case rel => exact ⟨(wrap64 (x8_2 + 1)), (y684), (x683003_2), (.slice (some ⟨go22, 0, none⟩) x683001_2.length co24), (u683003), (by first | rfl | (simp; done) | (simp [*]; done)), H', ⟨by have := HK1.out; have := HK2.out; omega⟩, ⟨by (with_reducible repeat (first | apply Kd.S_alloc | apply Kd.S_drewN | apply Kd.S_drew)); exact Kd.S_mono (Kd.S_far (p := ⟨go22, (x8_2 : Int).toNat * 2, none⟩) (Kd.S_mono HO_5.out (fun k_ hk => (⟨hk, fun e_ => hk.1 (by rw [e_]; rfl)⟩ : _ ∧ k_ ≠ go22))) (fun _ hk => hk.2) (.int .i64 (wrap64 ((wrap64 (a0 - 1)) - ((rd_T96 x683001_2 x8_2).f0))))) (fun _ hk => ⟨hk.1.1, ⟨hk.1.2.1, hk.1.2.2⟩⟩)⟩, ⟨by (with_reducible repeat (first | apply Kd.R_alloc | apply Kd.R_drewN | apply Kd.R_drew)); exact HQ26.out⟩, ⟨by (with_reducible repeat (first | apply Kd.R_alloc | apply Kd.R_drewN | apply Kd.R_drew)); exact Kd.R_mono (Kd.R_far (p := ⟨go22, (x8_2 : Int).toNat * 2, none⟩) (Kd.R_mono HO_683003.out (fun k_ hk => (⟨hk, fun e_ => hk (by rw [e_]; rfl)⟩ : _ ∧ k_ ≠ go22))) (fun _ hk => hk.2) (.int .i64 (wrap64 ((wrap64 (a0 - 1)) - ((rd_T96 x683001_2 x8_2).f0))))) (fun _ hk => hk.1)⟩, ⟨by (with_reducible repeat (first | refine blk_drewN ?_ _ | refine blk_drew ?_ | refine blk_alloc ?_ _)); refine blk_far ?_ (by have h_ := Kd.R_ne HO_683001.out BK682.out (by decide); intro e_; exact h_ (by rw [e_]; rfl)) _; (with_reducible repeat (first | refine blk_drewN ?_ _ | refine blk_drew ?_ | refine blk_alloc ?_ _)); exact BK682.out⟩, ⟨by repeat (first | (with_reducible first | exact HB.out | apply below_alloc | apply pw_below_drewN | apply below_drew1 | refine below_set ?_ GB22.out | refine below_set ?_ GE682.out) | exact HB.out)⟩⟩
                · rw [if_neg c21] at H
                  exact absurd H (by simp)
              · rw [if_neg c20] at H
                have c20b0 : decide (x8_2 < (x683001_2.length : Int)) = false := decide_eq_false c20
                clear c20
                have H' := Aside0.mk H
                clear H
                have hcz27_0 : wr.cell? ⟨gb682, 0, none⟩ = some (.int .i64 t673) := (blk_cell BK682.out 0).trans rfl
                have hcz27_1 : wr.cell? ⟨gb682, 1, none⟩ = some (u683001) := (blk_cell BK682.out 1).trans rfl
                have hcz27_2 : wr.cell? ⟨gb682, 2, none⟩ = some (.int .i64 t678) := (blk_cell BK682.out 2).trans rfl
                have hcz27_3 : wr.cell? ⟨gb682, 3, none⟩ = some (u683003) := (blk_cell BK682.out 3).trans rfl
                have hfz27_0 := blk_frozen BK682.out 0
                have hfz27_1 := blk_frozen BK682.out 1
                have hfz27_2 := blk_frozen BK682.out 2
                have hfz27_3 := blk_frozen BK682.out 3
                obtain ⟨Ao28, co28, eo28⟩ := Kd.R_slice HO_683001.out
                subst eo28
                go_wp2
                go_loopg [9] k2 (fun kq v9 w' => ∃ (x9_3 : Int) (x683001_3 : List (S96)) (x683003_3 : List (S96)) (u683001 : Value) (u683003 : Value), v9 = .int .i64 x9_3 ∧ Aside0 (tenetlaw02_turned.l2 kq a0 l1 x5_1 x6_1 x9_3 t673 x683001_3 t678 x683003_3 = some r) ∧ Aside0 (kq ≤ k2) ∧ Aside0 (Kd.S k44 44 w' w.heap.size (fun k_ => some k_ ≠ (u683001 : Value).ownBlock ∧ some k_ ≠ (u683003 : Value).ownBlock ∧ k_ ≠ gb682) u5 x5_1) ∧ Aside0 (Kd.R k96 96 w' w.heap.size (fun k_ => some k_ ≠ (u683003 : Value).ownBlock) u683001 x683001_3) ∧ Aside0 (Kd.R k96 96 w' w.heap.size (fun k_ => some k_ ≠ (u683001 : Value).ownBlock) u683003 x683003_3) ∧ Aside0 (w'.heap[gb682]? = some (.cells #[.int .i64 t673, u683001, .int .i64 t678, u683003] 44 (0, 0))) ∧ Aside0 (Below w.heap.size w w'))
                case atStart => exact ⟨(0), (x683001_2), (x683003_2), (.slice Ao28 x683001_2.length co28), (u683003), (by first | rfl | (simp; done) | (simp [*]; done)), H', ⟨Nat.le_refl _⟩, ⟨by (with_reducible repeat (first | apply Kd.S_alloc | apply Kd.S_drewN | apply Kd.S_drew)); exact HO_5.out⟩, ⟨by (with_reducible repeat (first | apply Kd.R_alloc | apply Kd.R_drewN | apply Kd.R_drew)); exact HO_683001.out⟩, ⟨by (with_reducible repeat (first | apply Kd.R_alloc | apply Kd.R_drewN | apply Kd.R_drew)); exact HO_683003.out⟩, ⟨by (with_reducible repeat (first | refine blk_drewN ?_ _ | refine blk_drew ?_ | refine blk_alloc ?_ _)); exact BK682.out⟩, ⟨by repeat (first | (with_reducible first | exact HB.out | apply below_alloc | apply pw_below_drewN | apply below_drew1 | refine below_set ?_ GE682.out) | exact HB.out)⟩⟩
                case round =>
                  clear H'
                  try clear c1
                  try clear c2
                  try clear p2
                  try clear q2
                  try clear hx2
                  try clear hf2
                  try clear c3
                  try clear c3b0
                  try clear c4
                  try clear c4b0
                  try clear c6
                  try clear p6
                  try clear q6
                  try clear hx6
                  try clear c7
                  try clear c20
                  try clear c20b0
                  try clear c21
                  try clear c21b0
                  try clear c22
                  try clear p22
                  try clear q22
                  try clear hx22
                  try clear hf22
                  try clear c26
                  try clear hcz23_0
                  try clear hcz23_1
                  try clear hcz23_2
                  try clear hcz23_3
                  try clear hcz27_0
                  try clear hcz27_1
                  try clear hcz27_2
                  try clear hcz27_3
                  try clear hfz23_0
                  try clear hfz23_1
                  try clear hfz23_2
                  try clear hfz23_3
                  try clear hfz27_0
                  try clear hfz27_1
                  try clear hfz27_2
                  try clear hfz27_3
                  try clear hx22_0
                  try clear hx22_1
                  try clear hx672_0
                  try clear hx672_1
                  try clear hx672_2
                  try clear hx672_3
                  try clear hx677_0
                  try clear hx677_1
                  try clear hx677_2
                  try clear hx677_3
                  try clear hx683_0
                  try clear hx683_1
                  try clear p2
                  try clear p22
                  try clear p6
                  try clear p672
                  try clear p677
                  try clear p683
                  try clear q22
                  try clear q6
                  try clear q672
                  try clear q677
                  try clear q683
                  obtain ⟨x9_3, x683001_3, x683003_3, u683001, u683003, rfl, HA, HK3, HO_5, HO_683001, HO_683003, BK682, HB⟩ := hrel
                  cases gk with
                  | zero => exact absurd HA.out (by simp [tenetlaw02_turned.l2])
                  | succ k3 =>
                    have H := HA.out
                    clear HA
                    simp only [tenetlaw02_turned.l2] at H
                    by_cases c29 : x9_3 < (x683003_3.length : Int)
                    · rw [if_pos c29] at H
                      have c29b0 : decide (x9_3 < (x683003_3.length : Int)) = true := decide_eq_true c29
                      clear c29
                      by_cases c30 : 0 ≤ x9_3
                      · rw [if_pos c30] at H
                        have c30b0 : decide (0 ≤ x9_3) = true := decide_eq_true c30
                        clear c30
                        obtain ⟨y686, hy686⟩ : ∃ y_ : List (S96), y_ = (x683003_3.set (x9_3 : Int).toNat (⟨wrap64 ((wrap64 (a0 - 1)) - ((rd_T96 x683003_3 x9_3).f0)), (rd_T96 x683003_3 x9_3).f1⟩ : S96)) := ⟨_, rfl⟩
                        replace H : (tenetlaw02_turned.l2 k3 a0 l1 x5_1 x6_1 (wrap64 (x9_3 + 1)) t673 x683001_3 t678 y686) = some r := by first | (rw [hy686]; with_reducible exact H) | (have H2_ := (Option.bind_some _ _).symm.trans H; rw [hy686]; with_reducible exact H2_) | (have H2_ := (Option.bind_some _ _).symm.trans H; with_reducible exact H2_) | with_reducible exact H | (rw [hy686]; exact H) | exact H
                        have Ny686 := Aside0.mk hy686
                        clear hy686
                        have H' := Aside0.mk H
                        clear H
                        have hcz32_0 : wr.cell? ⟨gb682, 0, none⟩ = some (.int .i64 t673) := (blk_cell BK682.out 0).trans rfl
                        have hcz32_1 : wr.cell? ⟨gb682, 1, none⟩ = some (u683001) := (blk_cell BK682.out 1).trans rfl
                        have hcz32_2 : wr.cell? ⟨gb682, 2, none⟩ = some (.int .i64 t678) := (blk_cell BK682.out 2).trans rfl
                        have hcz32_3 : wr.cell? ⟨gb682, 3, none⟩ = some (u683003) := (blk_cell BK682.out 3).trans rfl
                        have hfz32_0 := blk_frozen BK682.out 0
                        have hfz32_1 := blk_frozen BK682.out 1
                        have hfz32_2 := blk_frozen BK682.out 2
                        have hfz32_3 := blk_frozen BK682.out 3
                        obtain ⟨Ao33, co33, eo33⟩ := Kd.R_slice HO_683003.out
                        subst eo33
                        try go_wp2
                        have n0_ := Aside0.mk (Kd.S_drew HO_5.out)
                        have n1_ := Aside0.mk (Kd.R_drew HO_683001.out)
                        have n2_ := Aside0.mk (Kd.R_drew HO_683003.out)
                        have n3_ := Aside0.mk (blk_drew BK682.out)
                        have n4_ := Aside0.mk (below_drew1 HB.out)
                        clear HO_5
                        clear HO_683001
                        clear HO_683003
                        clear BK682
                        clear HB
                        have HO_5 := n0_
                        have HO_683001 := n1_
                        have HO_683003 := n2_
                        have BK682 := n3_
                        have HB := n4_
                        clear n0_ n1_ n2_ n3_ n4_
                        have p685 : 0 ≤ (x9_3 : Int) := of_decide_eq_true (by first | (with_reducible assumption) | assumption)
                        have q685 : x9_3 < (x683003_3.length : Int) := of_decide_eq_true (by first | (with_reducible assumption) | assumption)
                        obtain ⟨ad685, e685, hx685_0, hx685_1⟩ := at_T96 (Kd.R_reads' HO_683003.out).2.2 x9_3 p685 q685
                        cases e685
                        replace p685 := eq_true p685
                        replace q685 := eq_true q685
                        have p31 : 0 ≤ (x9_3 : Int) := of_decide_eq_true (by first | (with_reducible assumption) | assumption)
                        have q31 : (x9_3 : Int) < ((x683003_3.length : Int) : Int) := of_decide_eq_true (by first | (with_reducible assumption) | assumption)
                        obtain ⟨go31, co31, eo31, gb31, gl31, cl31, HG31⟩ := Kd.R_form HO_683003.out (by omega)
                        (first | cases eo31 | (injection eo31 with ea_ en_ ec_; (first | subst ea_ | (injection ea_ with ea_; subst ea_)); subst ec_; clear en_))
                        have GB31 := Aside0.mk gb31
                        have GG31 := Aside0.mk HG31
                        clear gb31 gl31 HG31
                        (first | simp only [add_plain] at hx685_0 | skip)
                        (first | simp only [add_plain] at hx685_1 | skip)
                        obtain ⟨ce31, hcl31, hM31, hcc31, hfr31⟩ := Kd.R_elem HO_683003.out z96 (x9_3 : Int) p31 q31
                        obtain rfl := k96_openM hM31
                        have hx31_0 : World.cell? _ ⟨go31, (x9_3 : Int).toNat * 2, none⟩ = some (.int .i64 ((rd_T96 x683003_3 x9_3).f0)) := hcc31 0 _ rfl
                        have hx31_1 : World.cell? _ ⟨go31, (x9_3 : Int).toNat * 2 + 1, none⟩ = some (.int .i64 ((rd_T96 x683003_3 x9_3).f1)) := hcc31 1 _ rfl
                        have hf31_0 : World.frozen? _ ⟨go31, (x9_3 : Int).toNat * 2, none⟩ = false := hfr31 0
                        have hf31_1 : World.frozen? _ ⟨go31, (x9_3 : Int).toNat * 2 + 1, none⟩ = false := hfr31 1
                        clear hcl31 hcc31 hfr31 hM31
                        replace p31 := eq_true p31
                        replace q31 := eq_true q31
                        obtain ⟨ce35, hcl35, hM35, hcc35, hfr35⟩ := Kd.R_elem HO_683003.out z96 (x9_3 : Int) (of_decide_eq_true (by first | (with_reducible assumption) | assumption)) (by have h_ : (x9_3 : Int) < ((x683003_3.length : Int) : Int) := of_decide_eq_true (by first | (with_reducible assumption) | assumption); first | exact h_ | (have e_ := (Kd.R_reads' HO_683003.out).1; omega) | simpa using h_)
                        obtain rfl := k96_openM hM35
                        have HP35 := (Kd.R_seg HO_683003.out (x9_3 : Int) (of_decide_eq_true (by first | (with_reducible assumption) | assumption)) (by have h_ : (x9_3 : Int) < ((x683003_3.length : Int) : Int) := of_decide_eq_true (by first | (with_reducible assumption) | assumption); first | exact h_ | (have e_ := (Kd.R_reads' HO_683003.out).1; omega) | simpa using h_) (seg := [.int .i64 (wrap64 ((wrap64 (a0 - 1)) - ((rd_T96 x683003_3 x9_3).f0)))]) (j := 0) hcl35 hcc35 (show 1 ≤ 2 from by decide) (x' := (⟨wrap64 ((wrap64 (a0 - 1)) - ((rd_T96 x683003_3 x9_3).f0)), (rd_T96 x683003_3 x9_3).f1⟩ : S96)) (k96_mkM _ _ _ (⟨wrap64 ((wrap64 (a0 - 1)) - ((rd_T96 x683003_3 x9_3).f0)), (rd_T96 x683003_3 x9_3).f1⟩ : S96) ) (fun _ hk => hk)).1
                        rw [← Ny686.out] at HP35
                        have HQ35 := Aside0.mk HP35
                        clear hcl35 hcc35 hfr35 hM35 HP35
                        refine start_ (n := 17) (S := fun w' => w'.cell? ⟨gb682, 0, none⟩ = some (.int .i64 t673) ∧ w'.cell? ⟨gb682, 1, none⟩ = some (u683001) ∧ w'.cell? ⟨gb682, 2, none⟩ = some (.int .i64 t678) ∧ w'.cell? ⟨gb682, 3, none⟩ = some (.slice (some ⟨go31, 0, none⟩) x683003_3.length co33) ∧ w'.cell? ⟨go31, ((x9_3).toNat * 2), none⟩ = some (.int .i64 ((rd_T96 x683003_3 x9_3).f0)) ∧ w'.cell? ⟨go31, ((x9_3).toNat * 2) + 1, none⟩ = some (.int .i64 ((rd_T96 x683003_3 x9_3).f1))) (ds := [16]) #[false, false, false, false, false, false, false, false, false, false, false, false, false, false, false, false, false] (by kernel_rfl) rfl rfl ⟨(blk_cell BK682.out 0).trans rfl, (blk_cell BK682.out 1).trans rfl, (blk_cell BK682.out 2).trans rfl, (blk_cell BK682.out 3).trans rfl, hx685_0, hx685_1⟩ (fun hHeld => ?_); refine with_tabW tenetlaw02_turned.tab13 tenetlaw02_turned.bits13 (fun HT_ HW_ => ?_)
                        generalize wr.drew = w34 at HO_5 HO_683001 HO_683003 BK682 HB GG31 HQ35 hf31_0 hf31_1 hx31_0 hx31_1 hx685_0 hx685_1 hHeld ⊢
                        refine pure_ (i := 0) (N := some 61) (v := ?_) (a' := ?_) #[true, false, false, false, false, false, false, false, false, false, false, false, false, false, false, false, false] rfl rfl (any_of HT_.out (by kernel_rfl)) (fun _ _ _ h => h) (Or.inl ⟨by rfl, ?_⟩) ?_ ?_
                        rotate_left
                        · intro w'
                          go_simp
                          with_reducible rfl
                        rotate_left
                        · simp only [Act.put, List.setIfInBounds_toArray, List.set_cons_zero, List.set_cons_succ, i64_w, i32_w]
                          rfl
                        refine pure_ (i := 1) (N := some 62) (v := ?_) (a' := ?_) #[true, true, false, false, false, false, false, false, false, false, false, false, false, false, false, false, false] rfl rfl (any_of HT_.out (by kernel_rfl)) (fun _ _ _ h => h) (Or.inl ⟨by rfl, ?_⟩) ?_ ?_
                        rotate_left
                        · intro w'
                          go_simp
                          with_reducible rfl
                        rotate_left
                        · simp only [Act.put, List.setIfInBounds_toArray, List.set_cons_zero, List.set_cons_succ, i64_w, i32_w]
                          rfl
                        refine pure_ (i := 3) (N := some 64) (v := ?_) (a' := ?_) #[true, true, false, true, false, false, false, false, false, false, false, false, false, false, false, false, false] rfl rfl (any_of HT_.out (by kernel_rfl)) (fun _ _ _ h => h) (Or.inl ⟨by rfl, ?_⟩) ?_ ?_
                        rotate_left
                        · intro w'
                          go_simp
                          with_reducible rfl
                        rotate_left
                        · simp only [Act.put, List.setIfInBounds_toArray, List.set_cons_zero, List.set_cons_succ, i64_w, i32_w]
                          rfl
                        refine pure_ (i := 4) (N := some 65) (v := ?_) (a' := ?_) #[true, true, false, true, true, false, false, false, false, false, false, false, false, false, false, false, false] rfl rfl (any_of HT_.out (by kernel_rfl)) (fun _ _ _ h => h) (Or.inl ⟨by rfl, ?_⟩) ?_ ?_
                        rotate_left
                        · intro w'
                          go_simp
                          with_reducible rfl
                        rotate_left
                        · simp only [Act.put, List.setIfInBounds_toArray, List.set_cons_zero, List.set_cons_succ, i64_w, i32_w]
                          rfl
                        refine pure_ (i := 5) (N := some 66) (v := ?_) (a' := ?_) #[true, true, false, true, true, true, false, false, false, false, false, false, false, false, false, false, false] rfl rfl (any_of HT_.out (by kernel_rfl)) (fun _ _ _ h => h) (Or.inl ⟨by rfl, ?_⟩) ?_ ?_
                        rotate_left
                        · intro w'
                          go_simp
                          with_reducible rfl
                        rotate_left
                        · simp only [Act.put, List.setIfInBounds_toArray, List.set_cons_zero, List.set_cons_succ, i64_w, i32_w]
                          rfl
                        refine pure_ (i := 6) (N := some 67) (v := ?_) (a' := ?_) #[true, true, false, true, true, true, true, false, false, false, false, false, false, false, false, false, false] rfl rfl (any_of HT_.out (by kernel_rfl)) (fun _ _ _ h => h) (Or.inl ⟨by rfl, ?_⟩) ?_ ?_
                        rotate_left
                        · intro w'
                          go_simp
                          with_reducible rfl
                        rotate_left
                        · simp only [Act.put, List.setIfInBounds_toArray, List.set_cons_zero, List.set_cons_succ, i64_w, i32_w]
                          rfl
                        refine pure_ (i := 7) (N := some 68) (v := ?_) (a' := ?_) #[true, true, false, true, true, true, true, true, false, false, false, false, false, false, false, false, false] rfl rfl (any_of HT_.out (by kernel_rfl)) (fun _ _ _ h => h) (Or.inl ⟨by rfl, ?_⟩) ?_ ?_
                        rotate_left
                        · intro w'
                          go_simp
                          with_reducible rfl
                        rotate_left
                        · simp only [Act.put, List.setIfInBounds_toArray, List.set_cons_zero, List.set_cons_succ, i64_w, i32_w]
                          rfl
                        refine pure_ (i := 9) (N := some 70) (v := ?_) (a' := ?_) #[true, true, false, true, true, true, true, true, false, true, false, false, false, false, false, false, false] rfl rfl (any_of HT_.out (by kernel_rfl)) (fun _ _ _ h => h) (Or.inl ⟨by rfl, ?_⟩) ?_ ?_
                        rotate_left
                        · intro w'
                          go_simp
                          with_reducible rfl
                        rotate_left
                        · simp only [Act.put, List.setIfInBounds_toArray, List.set_cons_zero, List.set_cons_succ, i64_w, i32_w]
                          rfl
                        refine take_ (i := 2) (N := some 63) (v := ?_) (a' := ?_) #[true, true, true, true, true, true, true, true, false, true, false, false, false, false, false, false, false] rfl rfl (take_ofW HT_.out HW_.out (by kernel_rfl)) (fun _ _ _ h => h) (Or.inl ⟨by rfl, ?_⟩) hHeld ?_ ?_
                        rotate_left
                        · rintro w' ⟨s0, s1, s2, s3, s4, s5⟩
                          go_simp
                          with_reducible rfl
                        rotate_left
                        · simp only [Act.put, List.setIfInBounds_toArray, List.set_cons_zero, List.set_cons_succ, i64_w, i32_w]
                          rfl
                        refine take_ (i := 8) (N := some 69) (v := ?_) (a' := ?_) #[true, true, true, true, true, true, true, true, true, true, false, false, false, false, false, false, false] rfl rfl (take_ofW HT_.out HW_.out (by kernel_rfl)) (fun _ _ _ h => h) (Or.inl ⟨by rfl, ?_⟩) hHeld ?_ ?_
                        rotate_left
                        · rintro w' ⟨s0, s1, s2, s3, s4, s5⟩
                          go_simp
                          with_reducible rfl
                        rotate_left
                        · simp only [Act.put, List.setIfInBounds_toArray, List.set_cons_zero, List.set_cons_succ, i64_w, i32_w]
                          rfl
                        refine pure_ (i := 10) (N := some 71) (v := ?_) (a' := ?_) #[true, true, true, true, true, true, true, true, true, true, true, false, false, false, false, false, false] rfl rfl (any_of HT_.out (by kernel_rfl)) (fun _ _ _ h => h) (Or.inl ⟨by rfl, ?_⟩) ?_ ?_
                        rotate_left
                        · intro w'
                          go_simp
                          with_reducible rfl
                        rotate_left
                        · simp only [Act.put, List.setIfInBounds_toArray, List.set_cons_zero, List.set_cons_succ, i64_w, i32_w]
                          rfl
                        refine pure_ (i := 11) (N := some 72) (v := ?_) (a' := ?_) #[true, true, true, true, true, true, true, true, true, true, true, true, false, false, false, false, false] rfl rfl (any_of HT_.out (by kernel_rfl)) (fun _ _ _ h => h) (Or.inl ⟨by rfl, ?_⟩) ?_ ?_
                        rotate_left
                        · intro w'
                          go_simp
                          with_reducible rfl
                        rotate_left
                        · simp only [Act.put, List.setIfInBounds_toArray, List.set_cons_zero, List.set_cons_succ, i64_w, i32_w]
                          rfl
                        refine take_ (i := 12) (N := some 73) (v := ?_) (a' := ?_) #[true, true, true, true, true, true, true, true, true, true, true, true, true, false, false, false, false] rfl rfl (take_ofW HT_.out HW_.out (by kernel_rfl)) (fun _ _ _ h => h) (Or.inl ⟨by rfl, ?_⟩) hHeld ?_ ?_
                        rotate_left
                        · rintro w' ⟨s0, s1, s2, s3, s4, s5⟩
                          go_simp
                          with_reducible rfl
                        rotate_left
                        · simp only [Act.put, List.setIfInBounds_toArray, List.set_cons_zero, List.set_cons_succ, i64_w, i32_w]
                          rfl
                        refine pure_ (i := 13) (N := some 74) (v := ?_) (a' := ?_) #[true, true, true, true, true, true, true, true, true, true, true, true, true, true, false, false, false] rfl rfl (any_of HT_.out (by kernel_rfl)) (fun _ _ _ h => h) (Or.inl ⟨by rfl, ?_⟩) ?_ ?_
                        rotate_left
                        · intro w'
                          go_simp
                          with_reducible rfl
                        rotate_left
                        · simp only [Act.put, List.setIfInBounds_toArray, List.set_cons_zero, List.set_cons_succ, i64_w, i32_w]
                          rfl
                        refine pure_ (i := 14) (N := some 75) (v := ?_) (a' := ?_) #[true, true, true, true, true, true, true, true, true, true, true, true, true, true, true, false, false] rfl rfl (any_of HT_.out (by kernel_rfl)) (fun _ _ _ h => h) (Or.inl ⟨by rfl, ?_⟩) ?_ ?_
                        rotate_left
                        · intro w'
                          go_simp
                          with_reducible rfl
                        rotate_left
                        · simp only [Act.put, List.setIfInBounds_toArray, List.set_cons_zero, List.set_cons_succ, i64_w, i32_w]
                          rfl
                        refine pure_ (i := 15) (N := some 76) (v := ?_) (a' := ?_) #[true, true, true, true, true, true, true, true, true, true, true, true, true, true, true, true, false] rfl rfl (any_of HT_.out (by kernel_rfl)) (fun _ _ _ h => h) (Or.inl ⟨by rfl, ?_⟩) ?_ ?_
                        rotate_left
                        · intro w'
                          go_simp
                          with_reducible rfl
                        rotate_left
                        · simp only [Act.put, List.setIfInBounds_toArray, List.set_cons_zero, List.set_cons_succ, i64_w, i32_w]
                          rfl
                        refine last_ (i := 16) (N := none) #[true, true, true, true, true, true, true, true, true, true, true, true, true, true, true, true, true] rfl rfl (one_of HT_.out (by kernel_rfl)) (by decide) (fun K hK => ?_)
                        refine skip_ (w1 := ?_) (by rfl) rfl ?_ ?_
                        rotate_left
                        · go_simp
                          rfl
                        refine hK.out _ _ ?_
                        clear hK K
                        refine done_ (done_of HT_.out (by kernel_rfl)) ?_
                        try go_wp2
                        go_roundg k3
                        case measure => have := HK1.out; have := HK2.out; have := HK3.out; omega
                        case rel => exact ⟨(wrap64 (x9_3 + 1)), (x683001_3), (y686), (u683001), (.slice (some ⟨go31, 0, none⟩) x683003_3.length co33), (by first | rfl | (simp; done) | (simp [*]; done)), H', ⟨by have := HK1.out; have := HK2.out; have := HK3.out; omega⟩, ⟨by (with_reducible repeat (first | apply Kd.S_alloc | apply Kd.S_drewN | apply Kd.S_drew)); exact Kd.S_mono (Kd.S_far (p := ⟨go31, (x9_3 : Int).toNat * 2, none⟩) (Kd.S_mono HO_5.out (fun k_ hk => (⟨hk, fun e_ => hk.2.1 (by rw [e_]; rfl)⟩ : _ ∧ k_ ≠ go31))) (fun _ hk => hk.2) (.int .i64 (wrap64 ((wrap64 (a0 - 1)) - ((rd_T96 x683003_3 x9_3).f0))))) (fun _ hk => ⟨hk.1.1, ⟨hk.1.2.1, hk.1.2.2⟩⟩)⟩, ⟨by (with_reducible repeat (first | apply Kd.R_alloc | apply Kd.R_drewN | apply Kd.R_drew)); exact Kd.R_mono (Kd.R_far (p := ⟨go31, (x9_3 : Int).toNat * 2, none⟩) (Kd.R_mono HO_683001.out (fun k_ hk => (⟨hk, fun e_ => hk (by rw [e_]; rfl)⟩ : _ ∧ k_ ≠ go31))) (fun _ hk => hk.2) (.int .i64 (wrap64 ((wrap64 (a0 - 1)) - ((rd_T96 x683003_3 x9_3).f0))))) (fun _ hk => hk.1)⟩, ⟨by (with_reducible repeat (first | apply Kd.R_alloc | apply Kd.R_drewN | apply Kd.R_drew)); exact HQ35.out⟩, ⟨by (with_reducible repeat (first | refine blk_drewN ?_ _ | refine blk_drew ?_ | refine blk_alloc ?_ _)); refine blk_far ?_ (by have h_ := Kd.R_ne HO_683003.out BK682.out (by decide); intro e_; exact h_ (by rw [e_]; rfl)) _; (with_reducible repeat (first | refine blk_drewN ?_ _ | refine blk_drew ?_ | refine blk_alloc ?_ _)); exact BK682.out⟩, ⟨by repeat (first | (with_reducible first | exact HB.out | apply below_alloc | apply pw_below_drewN | apply below_drew1 | refine below_set ?_ GB31.out | refine below_set ?_ GE682.out) | exact HB.out)⟩⟩
                      · rw [if_neg c30] at H
                        exact absurd H (by simp)
                    · rw [if_neg c29] at H
                      have c29b0 : decide (x9_3 < (x683003_3.length : Int)) = false := decide_eq_false c29
                      clear c29
                      by_cases c36 : x5_1.length < 2199023255552
                      · rw [if_pos c36] at H
                        have LMc36 := Aside0.mk c36
                        clear c36
                        obtain ⟨y687, hy687⟩ : ∃ y_ : List (S44), y_ = (x5_1 ++ [(⟨(⟨t673, x683001_3⟩ : S41), (⟨t678, x683003_3⟩ : S41)⟩ : S44)]) := ⟨_, rfl⟩
                        replace H : (tenetlaw02_turned.l0 k3 a0 l1 y687 (wrap64 (x6_1 + 1))) = some r := by first | (rw [hy687]; with_reducible exact H) | (have H2_ := (Option.bind_some _ _).symm.trans H; rw [hy687]; with_reducible exact H2_) | (have H2_ := (Option.bind_some _ _).symm.trans H; with_reducible exact H2_) | with_reducible exact H | (rw [hy687]; exact H) | exact H
                        have Ny687 := Aside0.mk hy687
                        clear hy687
                        have H' := Aside0.mk H
                        clear H
                        have hcz37_0 : wr.cell? ⟨gb682, 0, none⟩ = some (.int .i64 t673) := (blk_cell BK682.out 0).trans rfl
                        have hcz37_1 : wr.cell? ⟨gb682, 1, none⟩ = some (u683001) := (blk_cell BK682.out 1).trans rfl
                        have hcz37_2 : wr.cell? ⟨gb682, 2, none⟩ = some (.int .i64 t678) := (blk_cell BK682.out 2).trans rfl
                        have hcz37_3 : wr.cell? ⟨gb682, 3, none⟩ = some (u683003) := (blk_cell BK682.out 3).trans rfl
                        have hfz37_0 := blk_frozen BK682.out 0
                        have hfz37_1 := blk_frozen BK682.out 1
                        have hfz37_2 := blk_frozen BK682.out 2
                        have hfz37_3 := blk_frozen BK682.out 3
                        obtain ⟨Ao38, co38, eo38⟩ := Kd.R_slice HO_683003.out
                        subst eo38
                        obtain ⟨Ao40, co40, eo40⟩ := Kd.R_slice HO_683001.out
                        subst eo40
                        go_wp2_with (first | ((with_reducible refine gate_builtin (b := .append) (xs := #[.tmp 77, .tmp 79]) rfl ?_); at_builtin; refine Kd.S_append k44 (w0 := w) w.heap.size rfl (.tmp 77) (.tmp 79) 22 44 (.agg #[(.int .i64 0), (.slice none 0 0), (.int .i64 0), (.slice none 0 0)]) 64 rfl Try.underlying22 info44 rfl (by decide) (by omega) u5 x5_1 (⟨(⟨t673, x683001_3⟩ : S41), (⟨t678, x683003_3⟩ : S41)⟩ : S44) [.int .i64 t673, .slice Ao40 x683001_3.length co40, .int .i64 t678, .slice Ao38 x683003_3.length co38] (fun k_ => k_ ≠ gb682) (fun k_ => some k_ = (.slice Ao40 x683001_3.length co40 : Value).ownBlock ∨ some k_ = (.slice Ao38 x683003_3.length co38 : Value).ownBlock) rfl rfl ?aP (fun k_ hk_ => hk_.elim (fun h_ => ((Kd.R_mono (ok' := fun k_ => ((fun k_ => k_ ≠ gb682)) k_ ∧ some k_ ≠ (u5 : Value).ownBlock) (Kd.R_types (Kd.R_apart' (HO_683001.out) (Kd.S_typed HO_5.out) (by decide)) BK682.out (by decide)) (fun k_ hk => ⟨hk.2, hk.1.2⟩))).1 k_ h_.symm) (fun h_ => ((Kd.R_mono (ok' := fun k_ => ((fun k_ => k_ ≠ gb682)) k_ ∧ some k_ ≠ (u5 : Value).ownBlock) (Kd.R_types (Kd.R_apart' (HO_683003.out) (Kd.S_typed HO_5.out) (by decide)) BK682.out (by decide)) (fun k_ hk => ⟨hk.2, hk.1.2⟩))).1 k_ h_.symm)) ?aF ?aO ?aB ?aS ?aL ?_; (case aP => exact k44_mkM _ _ _ (⟨(⟨t673, x683001_3⟩ : S41), (⟨t678, x683003_3⟩ : S41)⟩ : S44) (Kd.R_mono (Kd.R_tight rfl (Kd.R_mono (ok' := fun k_ => ((fun k_ => k_ ≠ gb682)) k_ ∧ some k_ ≠ (u5 : Value).ownBlock) (Kd.R_types (Kd.R_apart' (HO_683001.out) (Kd.S_typed HO_5.out) (by decide)) BK682.out (by decide)) (fun k_ hk => ⟨hk.2, hk.1.2⟩))) (fun _ h_ => Or.inl h_)) (Kd.R_mono (Kd.R_tight rfl (Kd.R_mono (ok' := fun k_ => ((fun k_ => k_ ≠ gb682)) k_ ∧ some k_ ≠ (u5 : Value).ownBlock) (Kd.R_types (Kd.R_apart' (HO_683003.out) (Kd.S_typed HO_5.out) (by decide)) BK682.out (by decide)) (fun k_ hk => ⟨hk.2, hk.1.2⟩))) (fun _ h_ => Or.inr (h_)))); (case aB => exact (by repeat (first | (with_reducible first | exact HB.out | apply below_alloc | apply pw_below_drewN | apply below_drew1 | refine below_set ?_ GE682.out) | exact HB.out))); (case aF => exact (fun k_ hk => Kd.freshB (g := gb682) (o := .cells #[.int .i64 t673, .slice Ao40 x683001_3.length co40, .int .i64 t678, .slice Ao38 x683003_3.length co38] 44 (0, 0)) (by (with_reducible repeat (first | refine blk_drewN ?_ _ | refine blk_drew ?_ | refine blk_alloc ?_ _)); exact BK682.out) k_ hk)); (case aO => exact (by (with_reducible repeat (first | apply Kd.S_alloc | apply Kd.S_drewN | apply Kd.S_drew)); exact Kd.S_mono HO_5.out (fun k_ hk => ⟨hk.2.2, fun e_ => e_.elim (fun h_ => hk.1 h_) (fun h_ => hk.2.1 h_)⟩))); (case aS => exact (below_size (by repeat (first | (with_reducible first | exact HB.out | apply below_alloc | apply pw_below_drewN | apply below_drew1 | refine below_set ?_ GE682.out) | exact HB.out)))); (case aL => have := LMc36.out; omega); intro v688 w39 ho hb hg hat; rw [← Ny687.out] at ho; have n0_ := Aside0.mk (blk_grown (g := gb682) (o := .cells #[.int .i64 t673, .slice Ao40 x683001_3.length co40, .int .i64 t678, .slice Ao38 x683003_3.length co38] 44 (0, 0)) (by (with_reducible repeat (first | refine blk_drewN ?_ _ | refine blk_drew ?_ | refine blk_alloc ?_ _)); exact BK682.out) hg (Kd.S_away HO_5.out (fun _ hk => hk.2.2))); have n1_ := Aside0.mk (hb); have n2_ := Aside0.mk (ho); clear BK682; clear HB; clear HO_5; clear HO_683001; clear HO_683003; have BK682 := n0_; have HB := n1_; have HO689 := n2_; clear n0_ n1_ n2_; clear ho hb hg hat))
                        go_roundg k3
                        case measure => have := HK1.out; have := HK2.out; have := HK3.out; omega
                        case rel => exact ⟨(y687), (wrap64 (x6_1 + 1)), (by first | rfl | (simp; done) | (simp [*]; done)), H', ⟨by have := HK1.out; have := HK2.out; have := HK3.out; omega⟩, ⟨by (with_reducible repeat (first | apply Kd.S_alloc | apply Kd.S_drewN | apply Kd.S_drew)); exact Kd.S_mono HO689.out (fun _ hk => trivial)⟩, ⟨by repeat (first | (with_reducible first | exact HB.out | apply below_alloc | apply pw_below_drewN | apply below_drew1 | refine below_set ?_ GE682.out) | exact HB.out)⟩⟩
                      · rw [if_neg c36] at H
                        exact absurd H (by simp)
        · rw [if_neg c4] at H
          exact absurd H (by simp)
      · rw [if_neg c3] at H
        have c3b0 : decide (x6_1 < (l1.length : Int)) = false := decide_eq_false c3
        clear c3
        obtain rfl := Option.some.inj H
        go_wp2
        go_ret
        exact ⟨_, by first | rfl | (simp [errW_none, errW_some] <;> rfl) | (simp [*, errW_none, errW_some] <;> rfl), by (with_reducible repeat (first | apply Kd.S_alloc | apply Kd.S_drewN | apply Kd.S_drew)); exact HO_5.out, by repeat (first | (with_reducible first | exact HB.out | apply below_alloc | apply pw_below_drewN | apply below_drew1) | exact HB.out)⟩

end Go.Proofs.Ytegejpcglabhbaa.G
