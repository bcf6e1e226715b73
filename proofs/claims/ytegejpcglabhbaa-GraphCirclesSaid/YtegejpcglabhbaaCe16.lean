/- A part of this claim's proof: texts of its author, and printed ones, packed by a program of its author's. -/
import Derived.Test.YtegejpcglabhbaaCe2
namespace Go.Proofs.Ytegejpcglabhbaa.G
open Go.RowKit Go.Proofs.YtegejpcglabhbaaW.PrintWords Go.Proofs.YtegejpcglabhbaaW.PrintLast Go.Proofs.YtegejpcglabhbaaW.PrintMore
attribute [local go_sem] max2_int min2_int max_two min_two max_three min_three max_four min_four
set_option linter.unusedVariables false
set_option linter.unusedSimpArgs false
mutual
def graph_reached.l0 : Nat → List (List Int) → List Bool → List Int → Option (List Bool)
 | 0, _, _, _ => none
 | k + 1, x0, x5, x6 => if (x6.length : Int) > 0 then (if 0 ≤ (wrap64 ((x6.length : Int) - 1)) then (if (wrap64 ((x6.length : Int) - 1)) < (x6.length : Int) then (if (wrap64 ((x6.length : Int) - 1)) ≤ (x6.length : Int) then (if 0 ≤ (rd x6 (wrap64 ((x6.length : Int) - 1))) then (if (rd x6 (wrap64 ((x6.length : Int) - 1))) < (x0.length : Int) then (graph_reached.l1 k x0 x5 (x6.take ((wrap64 ((x6.length : Int) - 1)) : Int).toNat) (rd_L8 x0 (rd x6 (wrap64 ((x6.length : Int) - 1)))) ((rd_L8 x0 (rd x6 (wrap64 ((x6.length : Int) - 1)))).length : Int) 0) else (none)) else (none)) else (none)) else (none)) else (none)) else (some x5)
def graph_reached.l1 : Nat → List (List Int) → List Bool → List Int → List Int → Int → Int → Option (List Bool)
 | 0, _, _, _, _, _, _ => none
 | k + 1, x0, x5, x6, x35, x36, x37 => if x37 < x36 then (if 0 ≤ x37 then (if x37 < (x35.length : Int) then (if 0 ≤ (rd x35 x37) then (if (rd x35 x37) < (x5.length : Int) then (if (rdOf false x5 (rd x35 x37) = true) then (graph_reached.l1 k x0 x5 x6 x35 x36 (wrap64 (x37 + 1))) else (if x6.length < 17592186044416 then (graph_reached.l1 k x0 (x5.set ((rd x35 x37) : Int).toNat true) (x6 ++ [rd x35 x37]) x35 x36 (wrap64 (x37 + 1))) else (none))) else (none)) else (none)) else (none)) else (none)) else (graph_reached.l0 k x0 x5 x6)
end
def graph_reached.f (k : Nat) (l0 : List (List Int)) (a1 : Int) : Option (List Bool) := if 0 ≤ (l0.length : Int) then (if ((l0.length : Int) : Int).toNat ≤ 281474976710656 then ((some (List.replicate ((l0.length : Int) : Int).toNat false : List Bool)).bind fun y499 => (if 0 ≤ a1 then (if a1 < (y499.length : Int) then (graph_reached.l0 k l0 (y499.set (a1 : Int).toNat true) (([a1] : List Int))) else (none)) else (none))) else (none)) else (none)
theorem graph_reached.mono_l : ∀ k, (∀ y0 y1 y2, LeO (graph_reached.l0 k y0 y1 y2) (graph_reached.l0 (k + 1) y0 y1 y2)) ∧ (∀ y0 y1 y2 y3 y4 y5, LeO (graph_reached.l1 k y0 y1 y2 y3 y4 y5) (graph_reached.l1 (k + 1) y0 y1 y2 y3 y4 y5))
 | 0 => ⟨fun _ _ _ r h => by simp [graph_reached.l0] at h, fun _ _ _ _ _ _ r h => by simp [graph_reached.l1] at h⟩
 | k + 1 => by
  obtain ⟨ih0, ih1⟩ := graph_reached.mono_l k
  refine ⟨?_, ?_⟩
  ·intro y0 y1 y2
   unfold graph_reached.l0
   repeat' first
   | (with_reducible exact ih0 _ _ _)
   | (with_reducible exact ih1 _ _ _ _ _ _)
   | (with_reducible exact LeO.refl _)
   | (with_reducible exact LeO.none _)
   | (with_reducible refine LeO.ite ?_ ?_)
   | (with_reducible refine LeO.bind ?_ (fun _ => ?_))
   | exact ih0 _ _ _
   | exact ih1 _ _ _ _ _ _
   | exact LeO.none _
   | refine LeO.ite ?_ ?_
   | refine LeO.bind ?_ (fun _ => ?_)
  ·intro y0 y1 y2 y3 y4 y5
   unfold graph_reached.l1
   repeat' first
   | (with_reducible exact ih0 _ _ _)
   | (with_reducible exact ih1 _ _ _ _ _ _)
   | (with_reducible exact LeO.refl _)
   | (with_reducible exact LeO.none _)
   | (with_reducible refine LeO.ite ?_ ?_)
   | (with_reducible refine LeO.bind ?_ (fun _ => ?_))
   | exact ih0 _ _ _
   | exact ih1 _ _ _ _ _ _
   | exact LeO.none _
   | refine LeO.ite ?_ ?_
   | refine LeO.bind ?_ (fun _ => ?_)
theorem graph_reached.mono : ∀ a0 a1 k, LeO (graph_reached.f k a0 a1) (graph_reached.f (k + 1) a0 a1) := by
 intro a0 a1 k
 obtain ⟨ih0, ih1⟩ := graph_reached.mono_l k
 unfold graph_reached.f
 repeat' first
   | (with_reducible exact ih0 _ _ _)
   | (with_reducible exact ih1 _ _ _ _ _ _)
   | (with_reducible exact LeO.refl _)
   | (with_reducible exact LeO.none _)
   | (with_reducible refine LeO.ite ?_ ?_)
   | (with_reducible refine LeO.bind ?_ (fun _ => ?_))
   | exact ih0 _ _ _
   | exact ih1 _ _ _ _ _ _
   | exact LeO.none _
   | refine LeO.ite ?_ ?_
   | refine LeO.bind ?_ (fun _ => ?_)
set_option maxHeartbeats 8000000 in
set_option maxRecDepth 100000 in
theorem graph_reached.calls (k : Nat) (A0 : Option Addr) (c0 : Nat) (l0 : List (List Int)) (a1 : Int) (r : List Bool) (w : World) (hr0 : Kd.C (Kd.slice 3 (Kd.int .i64)) w A0 l0.length l0) (hc0 : l0.length ≤ c0) (h : graph_reached.f k l0 a1 = some r) :
  Calls Try.prog 72 #[.slice A0 l0.length c0, .int .i64 a1] w fun e w' => ∃ v0_ : Value, e = .returned (v0_) ∧ Kd.R Kd.bool 4 w' w.heap.size (fun _ => True) v0_ r ∧ Below w.heap.size w w' := by
 have HR0 := Aside0.mk hr0
 have HC0 := Aside0.mk hc0
 clear hr0 hc0
 have HB := Aside0.mk (Below.refl w.heap.size w)
 have H : (if 0 ≤ (l0.length : Int) then (if ((l0.length : Int) : Int).toNat ≤ 281474976710656 then ((some (List.replicate ((l0.length : Int) : Int).toNat false : List Bool)).bind fun y499 => (if 0 ≤ a1 then (if a1 < (y499.length : Int) then (graph_reached.l0 k l0 (y499.set (a1 : Int).toNat true) (([a1] : List Int))) else (none)) else (none))) else (none)) else (none)) = some r := h
 clear h
 by_cases c3 : 0 ≤ (l0.length : Int)
 ·rw [if_pos c3] at H
  have c3b0 := eq_true c3
  have c3b1 : decide (0 ≤ (l0.length : Int)) = true := decide_eq_true c3
  clear c3
  by_cases c4 : ((l0.length : Int) : Int).toNat ≤ 281474976710656
  ·rw [if_pos c4] at H
   have c4b0 := eq_true c4
   have c4b1 : decide (((l0.length : Int) : Int).toNat ≤ 281474976710656) = true := decide_eq_true c4
   clear c4
   obtain ⟨y499, hy499⟩ : ∃ y_ : List Bool, y_ = (List.replicate ((l0.length : Int) : Int).toNat false) := ⟨_, rfl⟩
   replace H : (if 0 ≤ a1 then (if a1 < (y499.length : Int) then (graph_reached.l0 k l0 (y499.set (a1 : Int).toNat true) (([a1] : List Int))) else (none)) else (none)) = some r := by first | (rw [hy499]; with_reducible exact H) | (have H2_ := (Option.bind_some _ _).symm.trans H; rw [hy499]; with_reducible exact H2_) | (have H2_ := (Option.bind_some _ _).symm.trans H; with_reducible exact H2_) | with_reducible exact H | (rw [hy499]; exact H) | exact H
   have Ny499 := Aside0.mk hy499
   clear hy499
   by_cases c5 : 0 ≤ a1
   ·rw [if_pos c5] at H
    have c5b0 : decide (0 ≤ a1) = true := decide_eq_true c5
    clear c5
    by_cases c6 : a1 < (y499.length : Int)
    ·rw [if_pos c6] at H
     have c6b0 : decide (a1 < (y499.length : Int)) = true := decide_eq_true c6
     clear c6
     obtain ⟨y502, hy502⟩ : ∃ y_ : List Bool, y_ = (y499.set (a1 : Int).toNat true) := ⟨_, rfl⟩
     replace H : (graph_reached.l0 k l0 y502 (([a1] : List Int))) = some r := by first | (rw [hy502]; with_reducible exact H) | (have H2_ := (Option.bind_some _ _).symm.trans H; rw [hy502]; with_reducible exact H2_) | (have H2_ := (Option.bind_some _ _).symm.trans H; with_reducible exact H2_) | with_reducible exact H | (rw [hy502]; exact H) | exact H
     have Ny502 := Aside0.mk hy502
     clear hy502
     obtain ⟨y503, hy503⟩ : ∃ y_ : List Int, y_ = (([a1] : List Int)) := ⟨_, rfl⟩
     replace H : (graph_reached.l0 k l0 y502 y503) = some r := by first | (rw [hy503]; with_reducible exact H) | (have H2_ := (Option.bind_some _ _).symm.trans H; rw [hy503]; with_reducible exact H2_) | (have H2_ := (Option.bind_some _ _).symm.trans H; with_reducible exact H2_) | with_reducible exact H | (rw [hy503]; exact H) | exact H
     have Ny503 := Aside0.mk hy503
     clear hy503
     have H' := Aside0.mk H
     clear H
     go_enter Try.func72, Try.ntmps72
     go_wp2_with (first | ((with_reducible refine gate_dst (N := 12) rfl ?_); refine Kd.R_make Kd.bool _ 4 rfl (N := 12) rfl 81 _ _ rfl (l0.length : Int) rfl rfl Try.underlying81 (.bool false) 1 info4 rfl (by decide) (by omega) false (ok := fun _ => True) (okp := fun _ => True) rfl (fun _ hk => hk) trivial (of_decide_eq_true (by first | (with_reducible assumption) | assumption)) (Nat.le_trans (Nat.mul_le_mul_right _ (of_decide_eq_true (by first | (with_reducible assumption) | assumption) : (l0.length : Int).toNat ≤ 281474976710656)) (by omega)) (Below.refl _ _) (Nat.le_refl _) ?_; intro v500 w8 ho9 hb hg_ hnew_; clear hg_ hnew_; (first | rw [← Ny499.out] at ho9 | (simp only [Int.reduceToNat] at ho9; rw [← Ny499.out] at ho9)); have n0_ := Aside0.mk (Kd.R_lower ho9 (below_size (by repeat (first | (with_reducible first | exact HB.out | apply below_alloc | apply pw_below_drewN | apply below_drew1) | exact HB.out)))); have n1_ := Aside0.mk (below_step (by repeat (first | (with_reducible first | exact HB.out | apply below_alloc | apply pw_below_drewN | apply below_drew1) | exact HB.out)) hb); clear HB; have HO501 := n0_; have HB := n1_; clear n0_ n1_; clear hb ho9; have p7 : 0 ≤ (a1 : Int) := of_decide_eq_true (by first | (with_reducible assumption) | assumption); have q7 : (a1 : Int) < ((y499.length : Int) : Int) := of_decide_eq_true (by first | (with_reducible assumption) | assumption); obtain ⟨go7, co7, eo7, gb7, gl7, cl7, HG7⟩ := Kd.R_form HO501.out (by omega); (first | cases eo7 | (injection eo7 with ea_ en_ ec_; (first | subst ea_ | (injection ea_ with ea_; subst ea_)); subst ec_; clear en_)); have GB7 := Aside0.mk gb7; have GG7 := Aside0.mk HG7; clear gb7 gl7 HG7; obtain ⟨hx7_0, hf7_0⟩ := Kd.R_celln false HO501.out (a1 : Int) p7 q7; replace p7 := eq_true p7; replace q7 := eq_true q7; obtain ⟨hy10_, hz10_⟩ := Kd.R_celln false HO501.out (a1 : Int) (of_decide_eq_true (by first | (with_reducible assumption) | assumption)) (of_decide_eq_true (by first | (with_reducible assumption) | assumption)); have HP10 := Kd.R_putg HO501.out (a1 : Int) true) | ((with_reducible refine gate_store (t := 4) (p := 15) rfl ?_); refine store_event (t := 4) (p := 15) (v := ?vo_w11) (w1 := (w8.setCell ⟨go7, (a1 : Int).toNat, none⟩ (.bool true))) ?hg ?ho ?hn ?hr ?_; (case ho => rfl); (case hg => rfl); (case hn => rfl); (case hr => first | (go_simp; done) | (go_simp; rfl)); intro w11 hw; have hg : w8.grownBy w11 (some go7) := (by rw [hw]; exact HP10.2); have hp_ : Kd.R Kd.bool 4 w11 w.heap.size (fun _ => True) (.slice (some ⟨go7, 0, none⟩) y499.length co7) y502 := (by rw [hw, Ny502.out]; exact HP10.1); clear HP10; have n0_ := Aside0.mk (hp_); have n1_ := Aside0.mk ((by rw [hw]; exact below_set (HB.out) GB7.out : Below w.heap.size w w11)); clear HO501; clear HB; have HO501 := n0_; have HB := n1_; clear n0_ n1_; clear hg hw hp_) | ((with_reducible refine gate_dst (N := 17) rfl ?_); refine Kd.R_lit (Kd.int .i64) _ 3 ?hg (N := 17) ?hd (xs := ([a1] : List Int)) (inner := [.int .i64 a1]) (ok := fun _ => True) (okp := fun _ => True) ?hr ?hp (fun _ hk => hk) trivial (Below.refl _ _) (Nat.le_refl _) (by simp) ?_; (case hd => rfl); (case hg => rfl); (case hr => first | (go_simp; done) | (go_simp; rfl)); (case hp => exact (Reps.one (show Kd.M (Kd.int .i64) _ _ _ a1 [.int .i64 a1] from rfl) (Reps.none _ _))); intro v504 w12 ho13 hb hg_ hnew_; clear hg_ hnew_; (first | rw [← Ny503.out] at ho13 | (simp only [Int.reduceToNat] at ho13; rw [← Ny503.out] at ho13)); have n0_ := Aside0.mk (Kd.R_below (by (with_reducible repeat (first | apply Kd.R_alloc | apply Kd.R_drewN | apply Kd.R_drew)); exact HO501.out) hb); have n1_ := Aside0.mk (Kd.R_lower ho13 (below_size (by repeat (first | (with_reducible first | exact HB.out | apply below_alloc | apply pw_below_drewN | apply below_drew1) | exact HB.out)))); have n2_ := Aside0.mk (below_step (by repeat (first | (with_reducible first | exact HB.out | apply below_alloc | apply pw_below_drewN | apply below_drew1) | exact HB.out)) hb); clear HO501; clear HB; have HO501 := n0_; have HO505 := n1_; have HB := n2_; clear n0_ n1_ n2_; clear hb ho13))
     go_loopg [6] k (fun kq v6 w' => ∃ (x5_1 : List Bool) (x6_1 : List Int), Aside0 (graph_reached.l0 kq l0 x5_1 x6_1 = some r) ∧ Aside0 (kq ≤ k) ∧ Aside0 (Kd.R Kd.bool 4 w' w.heap.size (fun _ => True) (.slice (some ⟨go7, 0, none⟩) y499.length co7) x5_1) ∧ Aside0 (Kd.R (Kd.int .i64) 3 w' w.heap.size (fun _ => True) v6 x6_1) ∧ Aside0 (Below w.heap.size w w'))
     case atStart => exact ⟨(y502), (y503), H', ⟨Nat.le_refl _⟩, ⟨by (with_reducible repeat (first | apply Kd.R_alloc | apply Kd.R_drewN | apply Kd.R_drew)); exact HO501.out⟩, ⟨by (with_reducible repeat (first | apply Kd.R_alloc | apply Kd.R_drewN | apply Kd.R_drew)); exact HO505.out⟩, ⟨by repeat (first | (with_reducible first | exact HB.out | apply below_alloc | apply pw_below_drewN | apply below_drew1) | exact HB.out)⟩⟩
     case round =>
      clear H'
      try clear p2
      try clear c3
      try clear c3b0
      try clear c3b1
      try clear c4
      try clear c4b0
      try clear c4b1
      try clear c5
      try clear c5b0
      try clear c6
      try clear c6b0
      try clear c7
      try clear p7
      try clear q7
      try clear hx7
      try clear hf7
      try clear hx7_0
      try clear p7
      try clear q7
      obtain ⟨x5_1, x6_1, HA, HK1, HO_5, HO_6, HB⟩ := hrel
      have hl5_1 := (Kd.R_reads' HO_5.out).1
      rw [hl5_1] at HO_5
      (try simp only [hl5_1])
      (try simp only [hl5_1] at HO_6)
      cases gk with
      | zero => exact absurd HA.out (by simp [graph_reached.l0])
      | succ k1 =>
       have H := HA.out
       clear HA
       simp only [graph_reached.l0] at H
       by_cases c14 : (x6_1.length : Int) > 0
       ·rw [if_pos c14] at H
        have c14b0 : decide (0 < (x6_1.length : Int)) = true := decide_eq_true c14
        have c14b1 : decide (0 < x6_1.length) = true := decide_eq_true (by omega)
        clear c14
        obtain ⟨ji15, hji15⟩ : ∃ j_ : Int, (wrap64 ((x6_1.length : Int) - 1)) = j_ := ⟨_, rfl⟩
        replace H : (if 0 ≤ (ji15) then (if (ji15) < (x6_1.length : Int) then (if (ji15) ≤ (x6_1.length : Int) then (if 0 ≤ (rd x6_1 (ji15)) then (if (rd x6_1 (ji15)) < (l0.length : Int) then (graph_reached.l1 k1 l0 x5_1 (x6_1.take ((ji15) : Int).toNat) (rd_L8 l0 (rd x6_1 (ji15))) ((rd_L8 l0 (rd x6_1 (ji15))).length : Int) 0) else (none)) else (none)) else (none)) else (none)) else (none)) = some r := by first | (rw [hji15] at H; exact H) | (simp only [hji15] at H ⊢; exact H)
        have hji15w : (IntKind.i64.wrap ((x6_1.length : Int) - 1)) = ji15 := (i64_w _).trans hji15
        by_cases c16 : 0 ≤ (ji15)
        ·rw [if_pos c16] at H
         have c16b0 : decide (0 ≤ (ji15)) = true := decide_eq_true c16
         clear c16
         by_cases c17 : (ji15) < (x6_1.length : Int)
         ·rw [if_pos c17] at H
          have c17b0 : decide ((ji15) < (x6_1.length : Int)) = true := decide_eq_true c17
          clear c17
          by_cases c18 : (ji15) ≤ (x6_1.length : Int)
          ·rw [if_pos c18] at H
           have c18b0 := eq_true c18
           have c18b1 : decide ((ji15) ≤ (x6_1.length : Int)) = true := decide_eq_true c18
           clear c18
           obtain ⟨y507, hy507⟩ : ∃ y_ : List Int, y_ = (x6_1.take ((ji15) : Int).toNat) := ⟨_, rfl⟩
           replace H : (if 0 ≤ (rd x6_1 (ji15)) then (if (rd x6_1 (ji15)) < (l0.length : Int) then (graph_reached.l1 k1 l0 x5_1 y507 (rd_L8 l0 (rd x6_1 (ji15))) ((rd_L8 l0 (rd x6_1 (ji15))).length : Int) 0) else (none)) else (none)) = some r := by first | (rw [hy507]; with_reducible exact H) | (have H2_ := (Option.bind_some _ _).symm.trans H; rw [hy507]; with_reducible exact H2_) | (have H2_ := (Option.bind_some _ _).symm.trans H; with_reducible exact H2_) | with_reducible exact H | (rw [hy507]; exact H) | exact H
           have Ny507 := Aside0.mk hy507
           clear hy507
           by_cases c19 : 0 ≤ (rd x6_1 (ji15))
           ·rw [if_pos c19] at H
            have c19b0 : decide (0 ≤ (rd x6_1 (ji15))) = true := decide_eq_true c19
            clear c19
            by_cases c20 : (rd x6_1 (ji15)) < (l0.length : Int)
            ·rw [if_pos c20] at H
             have c20b0 : decide ((rd x6_1 (ji15)) < (l0.length : Int)) = true := decide_eq_true c20
             clear c20
             have H' := Aside0.mk H
             clear H
             obtain ⟨Ao21, co21, eo21⟩ := Kd.R_slice HO_6.out
             subst eo21
             have p506 : 0 ≤ ((ji15) : Int) := of_decide_eq_true (by first | (with_reducible assumption) | assumption)
             have q506 : (ji15) < (x6_1.length : Int) := of_decide_eq_true (by first | (with_reducible assumption) | assumption)
             obtain ⟨ad506, e506, hx506_0⟩ := Kd.at_int (Kd.R_reads' HO_6.out).2.2 (ji15) p506 q506
             cases e506
             replace p506 := eq_true p506
             replace q506 := eq_true q506
             have q22 : ((ji15) : Int) ≤ ((x6_1.length : Int) : Int) := of_decide_eq_true (by first | (with_reducible assumption) | assumption)
             obtain ⟨i022, hi022, _, hsz22, _⟩ := info_parts info3
             have hcut22 := cut_to (P := Try.prog) 25 3 .i64 Try.underlying25 hi022 (some ad506) x6_1.length co21 (ji15) (of_decide_eq_true (by first | (with_reducible assumption) | assumption)) q22 (Kd.R_reads' HO_6.out).2.1
             have hr22 := Kd.R_take (m := ((ji15) : Int).toNat) HO_6.out (by omega)
             have hy22 : y507.length = ((ji15) : Int).toNat := (by rw [Ny507.out, List.length_take]; omega)
             rw [← Ny507.out] at hr22
             rw [← hy22] at hr22 hcut22
             clear hy22 hi022 hsz22 HO_6
             have HO509 := Aside0.mk hr22
             clear hr22
             replace q22 := eq_true q22
             have p510 : 0 ≤ ((rd x6_1 (ji15)) : Int) := of_decide_eq_true (by first | (with_reducible assumption) | assumption)
             have q510 : (rd x6_1 (ji15)) < (l0.length : Int) := of_decide_eq_true (by first | (with_reducible assumption) | assumption)
             obtain ⟨ad510, A510_0, c510_0, e510, hx510_0, hl510_0, hi510_0⟩ := at_L8 HR0.out (rd x6_1 (ji15)) p510 q510
             cases e510
             replace hx510_0 := (HB.out.cell (World.block_lt_of_cell? w _ hx510_0)).trans hx510_0
             have HR510_0 := Aside0.mk hi510_0
             have HC510_0 := Aside0.mk hl510_0
             clear hi510_0 hl510_0
             replace p510 := eq_true p510
             replace q510 := eq_true q510
             go_wp2
             go_loopg [6, 37] k1 (fun kq v6 v37 w' => ∃ (x5_2 : List Bool) (x6_2 : List Int) (x37_2 : Int), v37 = .int .i64 x37_2 ∧ Aside0 (graph_reached.l1 kq l0 x5_2 x6_2 (rd_L8 l0 (rd x6_1 (ji15))) ((rd_L8 l0 (rd x6_1 (ji15))).length : Int) x37_2 = some r) ∧ Aside0 (kq ≤ k1) ∧ Aside0 (Kd.R Kd.bool 4 w' w.heap.size (fun _ => True) (.slice (some ⟨go7, 0, none⟩) x5_1.length co7) x5_2) ∧ Aside0 (Kd.R (Kd.int .i64) 3 w' w.heap.size (fun _ => True) v6 x6_2) ∧ Aside0 (Below w.heap.size w w'))
             case atStart => exact ⟨(x5_1), (y507), (0), (by first | rfl | (simp; done) | (simp [*]; done)), H', ⟨Nat.le_refl _⟩, ⟨by (try simp only [hl5_1]); (with_reducible repeat (first | apply Kd.R_alloc | apply Kd.R_drewN | apply Kd.R_drew)); exact HO_5.out⟩, ⟨by (try simp only [hl5_1]); (with_reducible repeat (first | apply Kd.R_alloc | apply Kd.R_drewN | apply Kd.R_drew)); exact HO509.out⟩, ⟨by repeat (first | (with_reducible first | exact HB.out | apply below_alloc | apply pw_below_drewN | apply below_drew1) | exact HB.out)⟩⟩
             case round =>
              clear H'
              try clear c1
              try clear c2
              try clear p2
              try clear q2
              try clear c3
              try clear c3b0
              try clear c3b1
              try clear c4
              try clear c4b0
              try clear c4b1
              try clear c5
              try clear c5b0
              try clear p5
              try clear q5
              try clear hx5
              try clear c6
              try clear c6b0
              try clear p6
              try clear c7
              try clear p7
              try clear q7
              try clear hx7
              try clear hf7
              try clear c14
              try clear c14b0
              try clear c14b1
              try clear c16
              try clear c16b0
              try clear c17
              try clear c17b0
              try clear c18
              try clear c18b0
              try clear c18b1
              try clear c19
              try clear c19b0
              try clear c20
              try clear c20b0
              try clear q22
              try clear hx506_0
              try clear hx510_0
              try clear hx7_0
              try clear p2
              try clear p506
              try clear p510
              try clear p7
              try clear q22
              try clear q506
              try clear q510
              try clear q7
              obtain ⟨x5_2, x6_2, x37_2, rfl, HA, HK2, HO_5, HO_6, HB⟩ := hrel
              have hl5_2 := (Kd.R_reads' HO_5.out).1
              rw [hl5_2] at HO_5
              (try simp only [hl5_2])
              (try simp only [hl5_2] at HO_6)
              cases gk with
              | zero => exact absurd HA.out (by simp [graph_reached.l1])
              | succ k2 =>
               have H := HA.out
               clear HA
               simp only [graph_reached.l1] at H
               by_cases c23 : x37_2 < ((rd_L8 l0 (rd x6_1 (ji15))).length : Int)
               ·rw [if_pos c23] at H
                have c23b0 : decide (x37_2 < ((rd_L8 l0 (rd x6_1 (ji15))).length : Int)) = true := decide_eq_true c23
                clear c23
                by_cases c24 : 0 ≤ x37_2
                ·rw [if_pos c24] at H
                 have c24b0 : decide (0 ≤ x37_2) = true := decide_eq_true c24
                 clear c24
                 by_cases c25 : x37_2 < ((rd_L8 l0 (rd x6_1 (ji15))).length : Int)
                 ·rw [if_pos c25] at H
                  have c25b0 : decide (x37_2 < ((rd_L8 l0 (rd x6_1 (ji15))).length : Int)) = true := decide_eq_true c25
                  clear c25
                  by_cases c26 : 0 ≤ (rd (rd_L8 l0 (rd x6_1 (ji15))) x37_2)
                  ·rw [if_pos c26] at H
                   have c26b0 : decide (0 ≤ (rd (rd_L8 l0 (rd x6_1 (ji15))) x37_2)) = true := decide_eq_true c26
                   clear c26
                   by_cases c27 : (rd (rd_L8 l0 (rd x6_1 (ji15))) x37_2) < (x5_2.length : Int)
                   ·rw [if_pos c27] at H
                    have c27b0 : decide ((rd (rd_L8 l0 (rd x6_1 (ji15))) x37_2) < (x5_2.length : Int)) = true := decide_eq_true c27
                    clear c27
                    obtain ⟨bq28, hbq28⟩ : ∃ b_ : Bool, b_ = (rdOf false x5_2 (rd (rd_L8 l0 (rd x6_1 (ji15))) x37_2)) := ⟨_, rfl⟩
                    replace H : (if (bq28 = true) then (graph_reached.l1 k2 l0 x5_2 x6_2 (rd_L8 l0 (rd x6_1 (ji15))) ((rd_L8 l0 (rd x6_1 (ji15))).length : Int) (wrap64 (x37_2 + 1))) else (if x6_2.length < 17592186044416 then (graph_reached.l1 k2 l0 (x5_2.set ((rd (rd_L8 l0 (rd x6_1 (ji15))) x37_2) : Int).toNat true) (x6_2 ++ [rd (rd_L8 l0 (rd x6_1 (ji15))) x37_2]) (rd_L8 l0 (rd x6_1 (ji15))) ((rd_L8 l0 (rd x6_1 (ji15))).length : Int) (wrap64 (x37_2 + 1))) else (none))) = some r := by rw [← hbq28] at H; exact H
                    have Nbq28 := Aside0.mk hbq28
                    clear hbq28
                    by_cases c29 : (bq28 = true)
                    ·subst c29
                     have H1 : (graph_reached.l1 k2 l0 x5_2 x6_2 (rd_L8 l0 (rd x6_1 (ji15))) ((rd_L8 l0 (rd x6_1 (ji15))).length : Int) (wrap64 (x37_2 + 1))) = some r := by rw [if_pos rfl] at H; exact H
                     clear H
                     have H := H1
                     clear H1
                     have H' := Aside0.mk H
                     clear H
                     have p511 : 0 ≤ (x37_2 : Int) := of_decide_eq_true (by first | (with_reducible assumption) | assumption)
                     have q511 : x37_2 < ((rd_L8 l0 (rd x6_1 (ji15))).length : Int) := of_decide_eq_true (by first | (with_reducible assumption) | assumption)
                     obtain ⟨ad511, e511, hx511_0⟩ := Kd.at_int HR510_0.out x37_2 p511 q511
                     cases e511
                     replace hx511_0 := (HB.out.cell (World.block_lt_of_cell? w _ hx511_0)).trans hx511_0
                     replace p511 := eq_true p511
                     replace q511 := eq_true q511
                     have p512 : 0 ≤ ((rd (rd_L8 l0 (rd x6_1 (ji15))) x37_2) : Int) := of_decide_eq_true (by first | (with_reducible assumption) | assumption)
                     have q512 : (rd (rd_L8 l0 (rd x6_1 (ji15))) x37_2) < (x5_2.length : Int) := of_decide_eq_true (by first | (with_reducible assumption) | assumption)
                     obtain ⟨ad512, e512, hx512_0⟩ := Kd.at_bool (Kd.R_reads' HO_5.out).2.2 (rd (rd_L8 l0 (rd x6_1 (ji15))) x37_2) p512 q512
                     (try rw [← Nbq28.out] at hx512_0)
                     obtain rfl : (⟨go7, 0, none⟩ : Addr) = ad512 := (by injection e512)
                     (first | simp only [add_plain] at hx512_0 | simp only [add_at] at hx512_0 | simp only [Addr.add, Nat.zero_add] at hx512_0 | skip)
                     replace p512 := eq_true p512
                     replace q512 := eq_true q512
                     go_wp2
                     (try simp only [← hl5_2])
                     go_roundg k2
                     case measure => have := HK1.out; have := HK2.out; omega
                     case rel => exact ⟨(x5_2), (x6_2), (wrap64 (x37_2 + 1)), (by first | rfl | (simp; done) | (simp [*]; done)), H', ⟨by have := HK1.out; have := HK2.out; omega⟩, ⟨by (try simp only [hl5_1]); (try simp only [hl5_2]); (with_reducible repeat (first | apply Kd.R_alloc | apply Kd.R_drewN | apply Kd.R_drew)); exact HO_5.out⟩, ⟨by (try simp only [hl5_1]); (try simp only [hl5_2]); (with_reducible repeat (first | apply Kd.R_alloc | apply Kd.R_drewN | apply Kd.R_drew)); exact HO_6.out⟩, ⟨by repeat (first | (with_reducible first | exact HB.out | apply below_alloc | apply pw_below_drewN | apply below_drew1) | exact HB.out)⟩⟩
                    ·replace c29 := Bool.eq_false_iff.mpr c29
                     subst c29
                     have H1 : (if x6_2.length < 17592186044416 then (graph_reached.l1 k2 l0 (x5_2.set ((rd (rd_L8 l0 (rd x6_1 (ji15))) x37_2) : Int).toNat true) (x6_2 ++ [rd (rd_L8 l0 (rd x6_1 (ji15))) x37_2]) (rd_L8 l0 (rd x6_1 (ji15))) ((rd_L8 l0 (rd x6_1 (ji15))).length : Int) (wrap64 (x37_2 + 1))) else (none)) = some r := by rw [if_neg (show ¬ (false = true) by decide)] at H; exact H
                     clear H
                     have H := H1
                     clear H1
                     obtain ⟨y513, hy513⟩ : ∃ y_ : List Bool, y_ = (x5_2.set ((rd (rd_L8 l0 (rd x6_1 (ji15))) x37_2) : Int).toNat true) := ⟨_, rfl⟩
                     replace H : (if x6_2.length < 17592186044416 then (graph_reached.l1 k2 l0 y513 (x6_2 ++ [rd (rd_L8 l0 (rd x6_1 (ji15))) x37_2]) (rd_L8 l0 (rd x6_1 (ji15))) ((rd_L8 l0 (rd x6_1 (ji15))).length : Int) (wrap64 (x37_2 + 1))) else (none)) = some r := by first | (rw [hy513]; with_reducible exact H) | (have H2_ := (Option.bind_some _ _).symm.trans H; rw [hy513]; with_reducible exact H2_) | (have H2_ := (Option.bind_some _ _).symm.trans H; with_reducible exact H2_) | with_reducible exact H | (rw [hy513]; exact H) | exact H
                     have Ny513 := Aside0.mk hy513
                     clear hy513
                     by_cases c31 : x6_2.length < 17592186044416
                     ·rw [if_pos c31] at H
                      have LMc31 := Aside0.mk c31
                      clear c31
                      obtain ⟨y514, hy514⟩ : ∃ y_ : List Int, y_ = (x6_2 ++ [rd (rd_L8 l0 (rd x6_1 (ji15))) x37_2]) := ⟨_, rfl⟩
                      replace H : (graph_reached.l1 k2 l0 y513 y514 (rd_L8 l0 (rd x6_1 (ji15))) ((rd_L8 l0 (rd x6_1 (ji15))).length : Int) (wrap64 (x37_2 + 1))) = some r := by first | (rw [hy514]; with_reducible exact H) | (have H2_ := (Option.bind_some _ _).symm.trans H; rw [hy514]; with_reducible exact H2_) | (have H2_ := (Option.bind_some _ _).symm.trans H; with_reducible exact H2_) | with_reducible exact H | (rw [hy514]; exact H) | exact H
                      have Ny514 := Aside0.mk hy514
                      clear hy514
                      have H' := Aside0.mk H
                      clear H
                      have p511 : 0 ≤ (x37_2 : Int) := of_decide_eq_true (by first | (with_reducible assumption) | assumption)
                      have q511 : x37_2 < ((rd_L8 l0 (rd x6_1 (ji15))).length : Int) := of_decide_eq_true (by first | (with_reducible assumption) | assumption)
                      obtain ⟨ad511, e511, hx511_0⟩ := Kd.at_int HR510_0.out x37_2 p511 q511
                      cases e511
                      replace hx511_0 := (HB.out.cell (World.block_lt_of_cell? w _ hx511_0)).trans hx511_0
                      replace p511 := eq_true p511
                      replace q511 := eq_true q511
                      have p512 : 0 ≤ ((rd (rd_L8 l0 (rd x6_1 (ji15))) x37_2) : Int) := of_decide_eq_true (by first | (with_reducible assumption) | assumption)
                      have q512 : (rd (rd_L8 l0 (rd x6_1 (ji15))) x37_2) < (x5_2.length : Int) := of_decide_eq_true (by first | (with_reducible assumption) | assumption)
                      obtain ⟨ad512, e512, hx512_0⟩ := Kd.at_bool (Kd.R_reads' HO_5.out).2.2 (rd (rd_L8 l0 (rd x6_1 (ji15))) x37_2) p512 q512
                      (try rw [← Nbq28.out] at hx512_0)
                      obtain rfl : (⟨go7, 0, none⟩ : Addr) = ad512 := (by injection e512)
                      (first | simp only [add_plain] at hx512_0 | simp only [add_at] at hx512_0 | simp only [Addr.add, Nat.zero_add] at hx512_0 | skip)
                      replace p512 := eq_true p512
                      replace q512 := eq_true q512
                      have p30 : 0 ≤ ((rd (rd_L8 l0 (rd x6_1 (ji15))) x37_2) : Int) := of_decide_eq_true (by first | (with_reducible assumption) | assumption)
                      have q30 : ((rd (rd_L8 l0 (rd x6_1 (ji15))) x37_2) : Int) < ((x5_2.length : Int) : Int) := of_decide_eq_true (by first | (with_reducible assumption) | assumption)
                      obtain ⟨hx30_0, hf30_0⟩ := Kd.R_celln false HO_5.out ((rd (rd_L8 l0 (rd x6_1 (ji15))) x37_2) : Int) p30 q30
                      replace p30 := eq_true p30
                      replace q30 := eq_true q30
                      have HP32 := Kd.R_putg HO_5.out ((rd (rd_L8 l0 (rd x6_1 (ji15))) x37_2) : Int) true
                      go_wp2_with (first | ((with_reducible refine gate_store (t := 4) (p := 48) rfl ?_); refine store_event (t := 4) (p := 48) (v := ?vo_w33) (w1 := (wr.setCell ⟨go7, ((rd (rd_L8 l0 (rd x6_1 (ji15))) x37_2) : Int).toNat, none⟩ (.bool true))) ?hg ?ho ?hn ?hr ?_; (case ho => rfl); (case hg => rfl); (case hn => rfl); (case hr => first | (go_simp; done) | (go_simp; rfl)); intro w33 hw; have hg : wr.grownBy w33 (some go7) := (by rw [hw]; exact HP32.2); have hp_ : Kd.R Kd.bool 4 w33 w.heap.size (fun _ => True) (.slice (some ⟨go7, 0, none⟩) x5_2.length co7) y513 := (by rw [hw, Ny513.out]; exact HP32.1); clear HP32; have n0_ := Aside0.mk (hp_); have n1_ := Aside0.mk (Kd.R_over' (v := (.slice (some ⟨go7, 0, none⟩) x5_2.length co7)) (by (with_reducible repeat (first | apply Kd.R_alloc | apply Kd.R_drewN | apply Kd.R_drew)); exact HO_6.out) (Kd.R_typed HO_5.out) (by decide) hg); have n2_ := Aside0.mk ((by rw [hw]; exact below_set (HB.out) GB7.out : Below w.heap.size w w33)); clear HO_5; clear HO_6; clear HB; have HO_5 := n0_; have HO_6 := n1_; have HB := n2_; clear n0_ n1_ n2_; clear hg hw hp_) | ((with_reducible refine gate_builtin (b := .append) (xs := #[.tmp 49, .tmp 51]) rfl ?_); at_builtin; refine Kd.R_append (Kd.int .i64) (w0 := w) w.heap.size rfl (.tmp 49) (.tmp 51) 25 3 (.int .i64 0) 8 rfl Try.underlying25 info3 rfl (by decide) (by omega) u6 x6_2 (rd (rd_L8 l0 (rd x6_1 (ji15))) x37_2) [.int .i64 (rd (rd_L8 l0 (rd x6_1 (ji15))) x37_2)] (fun _ => True) (fun _ => False) rfl rfl ?aP (fun _ hk => hk.elim) ?aF ?aO ?aB ?aS ?aL ?_; (case aP => exact rfl); (case aB => exact (by repeat (first | (with_reducible first | exact HB.out | apply below_alloc | apply pw_below_drewN | apply below_drew1) | exact HB.out))); (case aF => exact (fun _ _ => trivial)); (case aO => exact (by (with_reducible repeat (first | apply Kd.R_alloc | apply Kd.R_drewN | apply Kd.R_drew)); exact HO_6.out)); (case aS => exact (below_size (by repeat (first | (with_reducible first | exact HB.out | apply below_alloc | apply pw_below_drewN | apply below_drew1) | exact HB.out)))); (case aL => have := LMc31.out; omega); intro v515 w34 ho hb hg hat; rw [← Ny514.out] at ho; have n0_ := Aside0.mk (Kd.R_over' (by (with_reducible repeat (first | apply Kd.R_alloc | apply Kd.R_drewN | apply Kd.R_drew)); exact HO_5.out) (Kd.R_typed (by (with_reducible repeat (first | apply Kd.R_alloc | apply Kd.R_drewN | apply Kd.R_drew)); exact HO_6.out)) (by decide) hg); have n1_ := Aside0.mk (hb); have n2_ := Aside0.mk (ho); clear HO_5; clear HB; clear HO_6; have HO_5 := n0_; have HB := n1_; have HO516 := n2_; clear n0_ n1_ n2_; clear ho hb hg hat))
                      (try simp only [← hl5_2])
                      go_roundg k2
                      case measure => have := HK1.out; have := HK2.out; omega
                      case rel => exact ⟨(y513), (y514), (wrap64 (x37_2 + 1)), (by first | rfl | (simp; done) | (simp [*]; done)), H', ⟨by have := HK1.out; have := HK2.out; omega⟩, ⟨by (try simp only [hl5_1]); (try simp only [hl5_2]); (with_reducible repeat (first | apply Kd.R_alloc | apply Kd.R_drewN | apply Kd.R_drew)); exact HO_5.out⟩, ⟨by (try simp only [hl5_1]); (try simp only [hl5_2]); (with_reducible repeat (first | apply Kd.R_alloc | apply Kd.R_drewN | apply Kd.R_drew)); exact HO516.out⟩, ⟨by repeat (first | (with_reducible first | exact HB.out | apply below_alloc | apply pw_below_drewN | apply below_drew1) | exact HB.out)⟩⟩
                     ·rw [if_neg c31] at H
                      exact absurd H (by simp)
                   ·rw [if_neg c27] at H
                    exact absurd H (by simp)
                  ·rw [if_neg c26] at H
                   exact absurd H (by simp)
                 ·rw [if_neg c25] at H
                  exact absurd H (by simp)
                ·rw [if_neg c24] at H
                 exact absurd H (by simp)
               ·rw [if_neg c23] at H
                have c23b0 : decide (x37_2 < ((rd_L8 l0 (rd x6_1 (ji15))).length : Int)) = false := decide_eq_false c23
                clear c23
                have H' := Aside0.mk H
                clear H
                go_wp2
                (try simp only [← hl5_1, ← hl5_2])
                go_roundg k2
                case measure => have := HK1.out; have := HK2.out; omega
                case rel => exact ⟨(x5_2), (x6_2), H', ⟨by have := HK1.out; have := HK2.out; omega⟩, ⟨by (try simp only [hl5_1]); (try simp only [hl5_2]); (with_reducible repeat (first | apply Kd.R_alloc | apply Kd.R_drewN | apply Kd.R_drew)); exact HO_5.out⟩, ⟨by (try simp only [hl5_1]); (try simp only [hl5_2]); (with_reducible repeat (first | apply Kd.R_alloc | apply Kd.R_drewN | apply Kd.R_drew)); exact HO_6.out⟩, ⟨by repeat (first | (with_reducible first | exact HB.out | apply below_alloc | apply pw_below_drewN | apply below_drew1) | exact HB.out)⟩⟩
            ·rw [if_neg c20] at H
             exact absurd H (by simp)
           ·rw [if_neg c19] at H
            exact absurd H (by simp)
          ·rw [if_neg c18] at H
           exact absurd H (by simp)
         ·rw [if_neg c17] at H
          exact absurd H (by simp)
        ·rw [if_neg c16] at H
         exact absurd H (by simp)
       ·rw [if_neg c14] at H
        have c14b0 : decide (0 < (x6_1.length : Int)) = false := decide_eq_false c14
        have c14b1 : decide (0 < x6_1.length) = false := decide_eq_false (by omega)
        clear c14
        obtain rfl := Option.some.inj H
        obtain ⟨Ao35, co35, eo35⟩ := Kd.R_slice HO_6.out
        subst eo35
        go_wp2
        go_ret
        exact ⟨_, by first | rfl | (simp [errW_none, errW_some] <;> rfl) | (simp [*, errW_none, errW_some] <;> rfl), by (with_reducible repeat (first | apply Kd.R_alloc | apply Kd.R_drewN | apply Kd.R_drew)); exact HO_5.out, by repeat (first | (with_reducible first | exact HB.out | apply below_alloc | apply pw_below_drewN | apply below_drew1) | exact HB.out)⟩
    ·rw [if_neg c6] at H
     exact absurd H (by simp)
   ·rw [if_neg c5] at H
    exact absurd H (by simp)
  ·rw [if_neg c4] at H
   exact absurd H (by simp)
 ·rw [if_neg c3] at H
  exact absurd H (by simp)
end Go.Proofs.Ytegejpcglabhbaa.G
