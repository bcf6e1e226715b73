/- A part of this claim's proof: texts of its author, and printed ones, packed by a program of its author's. -/
import Derived.Test.YtegejpcglabhbaaCa2
namespace Go.Proofs.Ytegejpcglabhbaa.G
open Go.RowKit Go.Proofs.YtegejpcglabhbaaW.PrintWords Go.Proofs.YtegejpcglabhbaaW.PrintLast Go.Proofs.YtegejpcglabhbaaW.PrintMore
attribute [local go_sem] max2_int min2_int max_two min_two max_three min_three max_four min_four
set_option linter.unusedVariables false
set_option linter.unusedSimpArgs false
mutual
def tenetref02_reached.l0 : Nat → Int → List (S108) → List Int → List Bool → Bool → Option (List Bool)
 | 0, _, _, _, _, _ => none
 | k + 1, x0, x1, x2, x9, x10 => if x10 = true then (tenetref02_reached.l1 k x0 x1 x2 x9 false 0) else (some x9)
def tenetref02_reached.l1 : Nat → Int → List (S108) → List Int → List Bool → Bool → Int → Option (List Bool)
 | 0, _, _, _, _, _, _ => none
 | k + 1, x0, x1, x2, x9, x10, x11 => if x11 < (x1.length : Int) then (if 0 ≤ x11 then (if ((rd_T108 x1 x11).f0) < x0 then (if 0 ≤ ((rd_T108 x1 x11).f0) then (if ((rd_T108 x1 x11).f0) < (x2.length : Int) then (tenetref02_reached.j2 k x0 x1 x2 x9 x10 x11 (rd x2 ((rd_T108 x1 x11).f0)) 0) else (none)) else (none)) else (tenetref02_reached.j2 k x0 x1 x2 x9 x10 x11 0 0)) else (none)) else (tenetref02_reached.l0 k x0 x1 x2 x9 x10)
def tenetref02_reached.j2 : Nat → Int → List (S108) → List Int → List Bool → Bool → Int → Int → Int → Option (List Bool)
 | 0, _, _, _, _, _, _, _, _ => none
 | k + 1, x0, x1, x2, x9, x10, x11, x12, x13 => if 0 ≤ x11 then (if x11 < (x1.length : Int) then (if ((rd_T108 x1 x11).f1) < x0 then (if 0 ≤ ((rd_T108 x1 x11).f1) then (if ((rd_T108 x1 x11).f1) < (x2.length : Int) then (if 0 ≤ ((rd_T108 x1 x11).f0) then (if ((rd_T108 x1 x11).f0) < (x9.length : Int) then (if rdOf false x9 ((rd_T108 x1 x11).f0) = true then (if ((rd_T108 x1 x11).f1) < (x9.length : Int) then (if (rdOf false x9 ((rd_T108 x1 x11).f1) = true) then (tenetref02_reached.l1 k x0 x1 x2 x9 x10 (wrap64 (x11 + 1))) else (if (wrap64 (x12 + ((rd_T108 x1 x11).f2))) = (rd x2 ((rd_T108 x1 x11).f1)) then (tenetref02_reached.l1 k x0 x1 x2 (x9.set (((rd_T108 x1 x11).f1) : Int).toNat true) true (wrap64 (x11 + 1))) else (tenetref02_reached.l1 k x0 x1 x2 x9 x10 (wrap64 (x11 + 1))))) else (none)) else (tenetref02_reached.l1 k x0 x1 x2 x9 x10 (wrap64 (x11 + 1)))) else (none)) else (none)) else (none)) else (none)) else (if 0 ≤ ((rd_T108 x1 x11).f0) then (if ((rd_T108 x1 x11).f0) < (x9.length : Int) then (if rdOf false x9 ((rd_T108 x1 x11).f0) = true then (if 0 ≤ ((rd_T108 x1 x11).f1) then (if ((rd_T108 x1 x11).f1) < (x9.length : Int) then (if (rdOf false x9 ((rd_T108 x1 x11).f1) = true) then (tenetref02_reached.l1 k x0 x1 x2 x9 x10 (wrap64 (x11 + 1))) else (if (wrap64 (x12 + ((rd_T108 x1 x11).f2))) = x13 then (tenetref02_reached.l1 k x0 x1 x2 (x9.set (((rd_T108 x1 x11).f1) : Int).toNat true) true (wrap64 (x11 + 1))) else (tenetref02_reached.l1 k x0 x1 x2 x9 x10 (wrap64 (x11 + 1))))) else (none)) else (none)) else (tenetref02_reached.l1 k x0 x1 x2 x9 x10 (wrap64 (x11 + 1)))) else (none)) else (none))) else (none)) else (none)
end
def tenetref02_reached.f (k : Nat) (a0 : Int) (l1 : List (S108)) (l2 : List Int) (a3 : Int) : Option (List Bool) := if 0 ≤ (wrap64 (a0 + 1)) then (if (wrap64 (a0 + 1) : Int).toNat ≤ 281474976710656 then ((some (List.replicate (wrap64 (a0 + 1) : Int).toNat false : List Bool)).bind fun y517 => (if 0 ≤ a3 then (if a3 < (y517.length : Int) then (tenetref02_reached.l0 k a0 l1 l2 (y517.set (a3 : Int).toNat true) true) else (none)) else (none))) else (none)) else (none)
theorem tenetref02_reached.mono_l : ∀ k, (∀ y0 y1 y2 y3 y4, LeO (tenetref02_reached.l0 k y0 y1 y2 y3 y4) (tenetref02_reached.l0 (k + 1) y0 y1 y2 y3 y4)) ∧ (∀ y0 y1 y2 y3 y4 y5, LeO (tenetref02_reached.l1 k y0 y1 y2 y3 y4 y5) (tenetref02_reached.l1 (k + 1) y0 y1 y2 y3 y4 y5)) ∧ (∀ y0 y1 y2 y3 y4 y5 y6 y7, LeO (tenetref02_reached.j2 k y0 y1 y2 y3 y4 y5 y6 y7) (tenetref02_reached.j2 (k + 1) y0 y1 y2 y3 y4 y5 y6 y7))
 | 0 => ⟨fun _ _ _ _ _ r h => by simp [tenetref02_reached.l0] at h, fun _ _ _ _ _ _ r h => by simp [tenetref02_reached.l1] at h, fun _ _ _ _ _ _ _ _ r h => by simp [tenetref02_reached.j2] at h⟩
 | k + 1 => by
  obtain ⟨ih0, ih1, ih2⟩ := tenetref02_reached.mono_l k
  refine ⟨?_, ?_, ?_⟩
  ·intro y0 y1 y2 y3 y4
   unfold tenetref02_reached.l0
   repeat' first
   | (with_reducible exact ih0 _ _ _ _ _)
   | (with_reducible exact ih1 _ _ _ _ _ _)
   | (with_reducible exact ih2 _ _ _ _ _ _ _ _)
   | (with_reducible exact LeO.refl _)
   | (with_reducible exact LeO.none _)
   | (with_reducible refine LeO.ite ?_ ?_)
   | (with_reducible refine LeO.bind ?_ (fun _ => ?_))
   | exact ih0 _ _ _ _ _
   | exact ih1 _ _ _ _ _ _
   | exact ih2 _ _ _ _ _ _ _ _
   | exact LeO.none _
   | refine LeO.ite ?_ ?_
   | refine LeO.bind ?_ (fun _ => ?_)
  ·intro y0 y1 y2 y3 y4 y5
   unfold tenetref02_reached.l1
   repeat' first
   | (with_reducible exact ih0 _ _ _ _ _)
   | (with_reducible exact ih1 _ _ _ _ _ _)
   | (with_reducible exact ih2 _ _ _ _ _ _ _ _)
   | (with_reducible exact LeO.refl _)
   | (with_reducible exact LeO.none _)
   | (with_reducible refine LeO.ite ?_ ?_)
   | (with_reducible refine LeO.bind ?_ (fun _ => ?_))
   | exact ih0 _ _ _ _ _
   | exact ih1 _ _ _ _ _ _
   | exact ih2 _ _ _ _ _ _ _ _
   | exact LeO.none _
   | refine LeO.ite ?_ ?_
   | refine LeO.bind ?_ (fun _ => ?_)
  ·intro y0 y1 y2 y3 y4 y5 y6 y7
   unfold tenetref02_reached.j2
   repeat' first
   | (with_reducible exact ih0 _ _ _ _ _)
   | (with_reducible exact ih1 _ _ _ _ _ _)
   | (with_reducible exact ih2 _ _ _ _ _ _ _ _)
   | (with_reducible exact LeO.refl _)
   | (with_reducible exact LeO.none _)
   | (with_reducible refine LeO.ite ?_ ?_)
   | (with_reducible refine LeO.bind ?_ (fun _ => ?_))
   | exact ih0 _ _ _ _ _
   | exact ih1 _ _ _ _ _ _
   | exact ih2 _ _ _ _ _ _ _ _
   | exact LeO.none _
   | refine LeO.ite ?_ ?_
   | refine LeO.bind ?_ (fun _ => ?_)
theorem tenetref02_reached.mono : ∀ a0 a1 a2 a3 k, LeO (tenetref02_reached.f k a0 a1 a2 a3) (tenetref02_reached.f (k + 1) a0 a1 a2 a3) := by
 intro a0 a1 a2 a3 k
 obtain ⟨ih0, ih1, ih2⟩ := tenetref02_reached.mono_l k
 unfold tenetref02_reached.f
 repeat' first
   | (with_reducible exact ih0 _ _ _ _ _)
   | (with_reducible exact ih1 _ _ _ _ _ _)
   | (with_reducible exact ih2 _ _ _ _ _ _ _ _)
   | (with_reducible exact LeO.refl _)
   | (with_reducible exact LeO.none _)
   | (with_reducible refine LeO.ite ?_ ?_)
   | (with_reducible refine LeO.bind ?_ (fun _ => ?_))
   | exact ih0 _ _ _ _ _
   | exact ih1 _ _ _ _ _ _
   | exact ih2 _ _ _ _ _ _ _ _
   | exact LeO.none _
   | refine LeO.ite ?_ ?_
   | refine LeO.bind ?_ (fun _ => ?_)
set_option maxHeartbeats 8000000 in
set_option maxRecDepth 100000 in
theorem tenetref02_reached.calls (k : Nat) (a0 : Int) (A1 : Option Addr) (c1 : Nat) (l1 : List (S108)) (A2 : Option Addr) (c2 : Nat) (l2 : List Int) (a3 : Int) (r : List Bool) (w : World) (hr1 : Kd.C k108 w A1 l1.length l1) (hc1 : l1.length ≤ c1) (hr2 : Kd.C (Kd.int .i64) w A2 l2.length l2) (hc2 : l2.length ≤ c2) (h : tenetref02_reached.f k a0 l1 l2 a3 = some r) :
  Calls Try.prog 73 #[.int .i64 a0, .slice A1 l1.length c1, .slice A2 l2.length c2, .int .i64 a3] w fun e w' => ∃ v0_ : Value, e = .returned (v0_) ∧ Kd.R Kd.bool 4 w' w.heap.size (fun _ => True) v0_ r ∧ Below w.heap.size w w' := by
 have HR1 := Aside0.mk hr1
 have HC1 := Aside0.mk hc1
 clear hr1 hc1
 have HR2 := Aside0.mk hr2
 have HC2 := Aside0.mk hc2
 clear hr2 hc2
 have HB := Aside0.mk (Below.refl w.heap.size w)
 have H : (if 0 ≤ (wrap64 (a0 + 1)) then (if (wrap64 (a0 + 1) : Int).toNat ≤ 281474976710656 then ((some (List.replicate (wrap64 (a0 + 1) : Int).toNat false : List Bool)).bind fun y517 => (if 0 ≤ a3 then (if a3 < (y517.length : Int) then (tenetref02_reached.l0 k a0 l1 l2 (y517.set (a3 : Int).toNat true) true) else (none)) else (none))) else (none)) else (none)) = some r := h
 clear h
 obtain ⟨ji5, hji5⟩ : ∃ j_ : Int, (wrap64 (a0 + 1)) = j_ := ⟨_, rfl⟩
 replace H : (if 0 ≤ (ji5) then (if (ji5 : Int).toNat ≤ 281474976710656 then ((some (List.replicate (ji5 : Int).toNat false : List Bool)).bind fun y517 => (if 0 ≤ a3 then (if a3 < (y517.length : Int) then (tenetref02_reached.l0 k a0 l1 l2 (y517.set (a3 : Int).toNat true) true) else (none)) else (none))) else (none)) else (none)) = some r := by first | (rw [hji5] at H; exact H) | (simp only [hji5] at H ⊢; exact H)
 have hji5w : (IntKind.i64.wrap (a0 + 1)) = ji5 := (i64_w _).trans hji5
 by_cases c6 : 0 ≤ (ji5)
 ·rw [if_pos c6] at H
  have c6b0 := eq_true c6
  have c6b1 : decide (0 ≤ (ji5)) = true := decide_eq_true c6
  clear c6
  by_cases c7 : (ji5 : Int).toNat ≤ 281474976710656
  ·rw [if_pos c7] at H
   have c7b0 := eq_true c7
   have c7b1 : decide ((ji5 : Int).toNat ≤ 281474976710656) = true := decide_eq_true c7
   clear c7
   obtain ⟨y517, hy517⟩ : ∃ y_ : List Bool, y_ = (List.replicate (ji5 : Int).toNat false) := ⟨_, rfl⟩
   replace H : (if 0 ≤ a3 then (if a3 < (y517.length : Int) then (tenetref02_reached.l0 k a0 l1 l2 (y517.set (a3 : Int).toNat true) true) else (none)) else (none)) = some r := by first | (rw [hy517]; with_reducible exact H) | (have H2_ := (Option.bind_some _ _).symm.trans H; rw [hy517]; with_reducible exact H2_) | (have H2_ := (Option.bind_some _ _).symm.trans H; with_reducible exact H2_) | with_reducible exact H | (rw [hy517]; exact H) | exact H
   have Ny517 := Aside0.mk hy517
   clear hy517
   by_cases c8 : 0 ≤ a3
   ·rw [if_pos c8] at H
    have c8b0 : decide (0 ≤ a3) = true := decide_eq_true c8
    clear c8
    by_cases c9 : a3 < (y517.length : Int)
    ·rw [if_pos c9] at H
     have c9b0 : decide (a3 < (y517.length : Int)) = true := decide_eq_true c9
     clear c9
     obtain ⟨y520, hy520⟩ : ∃ y_ : List Bool, y_ = (y517.set (a3 : Int).toNat true) := ⟨_, rfl⟩
     replace H : (tenetref02_reached.l0 k a0 l1 l2 y520 true) = some r := by first | (rw [hy520]; with_reducible exact H) | (have H2_ := (Option.bind_some _ _).symm.trans H; rw [hy520]; with_reducible exact H2_) | (have H2_ := (Option.bind_some _ _).symm.trans H; with_reducible exact H2_) | with_reducible exact H | (rw [hy520]; exact H) | exact H
     have Ny520 := Aside0.mk hy520
     clear hy520
     have H' := Aside0.mk H
     clear H
     go_enter Try.func73, Try.ntmps73
     go_wp2_with (first | ((with_reducible refine gate_dst (N := 16) rfl ?_); refine Kd.R_make Kd.bool _ 4 rfl (N := 16) rfl 81 _ _ rfl ji5 rfl rfl Try.underlying81 (.bool false) 1 info4 rfl (by decide) (by omega) false (ok := fun _ => True) (okp := fun _ => True) rfl (fun _ hk => hk) trivial (of_decide_eq_true (by first | (with_reducible assumption) | assumption)) (Nat.le_trans (Nat.mul_le_mul_right _ (of_decide_eq_true (by first | (with_reducible assumption) | assumption) : ji5.toNat ≤ 281474976710656)) (by omega)) (Below.refl _ _) (Nat.le_refl _) ?_; intro v518 w11 ho12 hb hg_ hnew_; clear hg_ hnew_; (first | rw [← Ny517.out] at ho12 | (simp only [Int.reduceToNat] at ho12; rw [← Ny517.out] at ho12)); have n0_ := Aside0.mk (Kd.R_lower ho12 (below_size (by repeat (first | (with_reducible first | exact HB.out | apply below_alloc | apply pw_below_drewN | apply below_drew1) | exact HB.out)))); have n1_ := Aside0.mk (below_step (by repeat (first | (with_reducible first | exact HB.out | apply below_alloc | apply pw_below_drewN | apply below_drew1) | exact HB.out)) hb); clear HB; have HO519 := n0_; have HB := n1_; clear n0_ n1_; clear hb ho12; have p10 : 0 ≤ (a3 : Int) := of_decide_eq_true (by first | (with_reducible assumption) | assumption); have q10 : (a3 : Int) < ((y517.length : Int) : Int) := of_decide_eq_true (by first | (with_reducible assumption) | assumption); obtain ⟨go10, co10, eo10, gb10, gl10, cl10, HG10⟩ := Kd.R_form HO519.out (by omega); (first | cases eo10 | (injection eo10 with ea_ en_ ec_; (first | subst ea_ | (injection ea_ with ea_; subst ea_)); subst ec_; clear en_)); have GB10 := Aside0.mk gb10; have GG10 := Aside0.mk HG10; clear gb10 gl10 HG10; obtain ⟨hx10_0, hf10_0⟩ := Kd.R_celln false HO519.out (a3 : Int) p10 q10; replace p10 := eq_true p10; replace q10 := eq_true q10; obtain ⟨hy13_, hz13_⟩ := Kd.R_celln false HO519.out (a3 : Int) (of_decide_eq_true (by first | (with_reducible assumption) | assumption)) (of_decide_eq_true (by first | (with_reducible assumption) | assumption)); have HP13 := Kd.R_putg HO519.out (a3 : Int) true) | ((with_reducible refine gate_store (t := 4) (p := 19) rfl ?_); refine store_event (t := 4) (p := 19) (v := ?vo_w14) (w1 := (w11.setCell ⟨go10, (a3 : Int).toNat, none⟩ (.bool true))) ?hg ?ho ?hn ?hr ?_; (case ho => rfl); (case hg => rfl); (case hn => rfl); (case hr => first | (go_simp; done) | (go_simp; rfl)); intro w14 hw; have hg : w11.grownBy w14 (some go10) := (by rw [hw]; exact HP13.2); have hp_ : Kd.R Kd.bool 4 w14 w.heap.size (fun _ => True) (.slice (some ⟨go10, 0, none⟩) y517.length co10) y520 := (by rw [hw, Ny520.out]; exact HP13.1); clear HP13; have n0_ := Aside0.mk (hp_); have n1_ := Aside0.mk ((by rw [hw]; exact below_set (HB.out) GB10.out : Below w.heap.size w w14)); clear HO519; clear HB; have HO519 := n0_; have HB := n1_; clear n0_ n1_; clear hg hw hp_))
     go_loopg [10] k (fun kq v10 w' => ∃ (x9_1 : List Bool) (x10_1 : Bool), v10 = .bool x10_1 ∧ Aside0 (tenetref02_reached.l0 kq a0 l1 l2 x9_1 x10_1 = some r) ∧ Aside0 (kq ≤ k) ∧ Aside0 (Kd.R Kd.bool 4 w' w.heap.size (fun _ => True) (.slice (some ⟨go10, 0, none⟩) y517.length co10) x9_1) ∧ Aside0 (Below w.heap.size w w'))
     case atStart => exact ⟨(y520), (true), (by first | rfl | (simp; done) | (simp [*]; done)), H', ⟨Nat.le_refl _⟩, ⟨by (with_reducible repeat (first | apply Kd.R_alloc | apply Kd.R_drewN | apply Kd.R_drew)); exact HO519.out⟩, ⟨by repeat (first | (with_reducible first | exact HB.out | apply below_alloc | apply pw_below_drewN | apply below_drew1) | exact HB.out)⟩⟩
     case round =>
      clear H'
      try clear c1
      try clear p1
      try clear q1
      try clear hx1
      try clear c2
      try clear p2
      try clear c6
      try clear c6b0
      try clear c6b1
      try clear p6
      try clear c7
      try clear c7b0
      try clear c7b1
      try clear c8
      try clear c8b0
      try clear c9
      try clear c9b0
      try clear p10
      try clear q10
      try clear hx10
      try clear hf10
      try clear hx10_0
      try clear p10
      try clear q10
      obtain ⟨x9_1, x10_1, rfl, HA, HK1, HO_9, HB⟩ := hrel
      have hl9_1 := (Kd.R_reads' HO_9.out).1
      rw [hl9_1] at HO_9
      (try simp only [hl9_1])
      cases gk with
      | zero => exact absurd HA.out (by simp [tenetref02_reached.l0])
      | succ k1 =>
       have H := HA.out
       clear HA
       simp only [tenetref02_reached.l0] at H
       by_cases c15 : x10_1 = true
       ·subst c15
        have H1 : (tenetref02_reached.l1 k1 a0 l1 l2 x9_1 false 0) = some r := by rw [if_pos rfl] at H; exact H
        clear H
        have H := H1
        clear H1
        have H' := Aside0.mk H
        clear H
        go_wp2
        go_loopg [10, 11] k1 (fun kq v10 v11 w' => ∃ (x9_2 : List Bool) (x10_2 : Bool) (x11_2 : Int), v10 = .bool x10_2 ∧ v11 = .int .i64 x11_2 ∧ Aside0 (tenetref02_reached.l1 kq a0 l1 l2 x9_2 x10_2 x11_2 = some r) ∧ Aside0 (kq ≤ k1) ∧ Aside0 (Kd.R Kd.bool 4 w' w.heap.size (fun _ => True) (.slice (some ⟨go10, 0, none⟩) x9_1.length co10) x9_2) ∧ Aside0 (Below w.heap.size w w'))
        case atStart => exact ⟨(x9_1), (false), (0), (by first | rfl | (simp; done) | (simp [*]; done)), (by first | rfl | (simp; done) | (simp [*]; done)), H', ⟨Nat.le_refl _⟩, ⟨by (try simp only [hl9_1]); (with_reducible repeat (first | apply Kd.R_alloc | apply Kd.R_drewN | apply Kd.R_drew)); exact HO_9.out⟩, ⟨by repeat (first | (with_reducible first | exact HB.out | apply below_alloc | apply pw_below_drewN | apply below_drew1) | exact HB.out)⟩⟩
        case round =>
         clear H'
         try clear c1
         try clear p1
         try clear q1
         try clear hx1
         try clear c2
         try clear p2
         try clear c6
         try clear c6b0
         try clear c6b1
         try clear p6
         try clear c7
         try clear c7b0
         try clear c7b1
         try clear c8
         try clear c8b0
         try clear c9
         try clear c9b0
         try clear p10
         try clear q10
         try clear hx10
         try clear hf10
         try clear c15
         try clear hx10_0
         try clear p1
         try clear p10
         try clear p2
         try clear p6
         try clear q1
         try clear q10
         obtain ⟨x9_2, x10_2, x11_2, rfl, rfl, HA, HK2, HO_9, HB⟩ := hrel
         have hl9_2 := (Kd.R_reads' HO_9.out).1
         rw [hl9_2] at HO_9
         (try simp only [hl9_2])
         cases gk with
         | zero => exact absurd HA.out (by simp [tenetref02_reached.l1])
         | succ k2 =>
          have H := HA.out
          clear HA
          simp only [tenetref02_reached.l1] at H
          by_cases c16 : x11_2 < (l1.length : Int)
          ·rw [if_pos c16] at H
           have c16b0 : decide (x11_2 < (l1.length : Int)) = true := decide_eq_true c16
           clear c16
           by_cases c17 : 0 ≤ x11_2
           ·rw [if_pos c17] at H
            have c17b0 : decide (0 ≤ x11_2) = true := decide_eq_true c17
            clear c17
            have HC18 := Aside0.mk H
            clear H
            have p521 : 0 ≤ (x11_2 : Int) := of_decide_eq_true (by first | (with_reducible assumption) | assumption)
            have q521 : x11_2 < (l1.length : Int) := of_decide_eq_true (by first | (with_reducible assumption) | assumption)
            obtain ⟨ad521, e521, hx521_0, hx521_1, hx521_2⟩ := at_T108 HR1.out x11_2 p521 q521
            cases e521
            replace hx521_0 := (HB.out.cell (World.block_lt_of_cell? w _ hx521_0)).trans hx521_0
            replace hx521_1 := (HB.out.cell (World.block_lt_of_cell? w _ hx521_1)).trans hx521_1
            replace hx521_2 := (HB.out.cell (World.block_lt_of_cell? w _ hx521_2)).trans hx521_2
            replace p521 := eq_true p521
            replace q521 := eq_true q521
            go_upto_if 33 with (fail)
            go_cut [12] (fun v12 wc => ∃ (kq : Nat) (x12_17 : Int), v12 = .int .i64 x12_17 ∧ Aside0 (tenetref02_reached.j2 kq a0 l1 l2 x9_2 x10_2 x11_2 x12_17 0 = some r) ∧ Aside0 (kq ≤ k2) ∧ Aside0 (Kd.R Kd.bool 4 wc w.heap.size (fun _ => True) (.slice (some ⟨go10, 0, none⟩) x9_2.length co10) x9_2) ∧ Aside0 (Below w.heap.size w wc))
            case first =>
             have H := HC18.out
             clear HC18
             by_cases c19 : ((rd_T108 l1 x11_2).f0) < a0
             ·rw [if_pos c19] at H
              have c19b0 : decide (((rd_T108 l1 x11_2).f0) < a0) = true := decide_eq_true c19
              clear c19
              (first | rw [c19b0] | (simp only [i64_w, i32_w]; rw [c19b0]) | skip)
              by_cases c20 : 0 ≤ ((rd_T108 l1 x11_2).f0)
              ·rw [if_pos c20] at H
               have c20b0 : decide (0 ≤ ((rd_T108 l1 x11_2).f0)) = true := decide_eq_true c20
               clear c20
               by_cases c21 : ((rd_T108 l1 x11_2).f0) < (l2.length : Int)
               ·rw [if_pos c21] at H
                have c21b0 : decide (((rd_T108 l1 x11_2).f0) < (l2.length : Int)) = true := decide_eq_true c21
                clear c21
                have H' := Aside0.mk H
                clear H
                have p522 : 0 ≤ (x11_2 : Int) := of_decide_eq_true (by first | (with_reducible assumption) | assumption)
                have q522 : x11_2 < (l1.length : Int) := of_decide_eq_true (by first | (with_reducible assumption) | assumption)
                obtain ⟨ad522, e522, hx522_0, hx522_1, hx522_2⟩ := at_T108 HR1.out x11_2 p522 q522
                obtain rfl : ad521 = ad522 := (by injection e522)
                replace hx522_0 := (HB.out.cell (World.block_lt_of_cell? w _ hx522_0)).trans hx522_0
                replace hx522_1 := (HB.out.cell (World.block_lt_of_cell? w _ hx522_1)).trans hx522_1
                replace hx522_2 := (HB.out.cell (World.block_lt_of_cell? w _ hx522_2)).trans hx522_2
                replace p522 := eq_true p522
                replace q522 := eq_true q522
                have p523 : 0 ≤ (((rd_T108 l1 x11_2).f0) : Int) := of_decide_eq_true (by first | (with_reducible assumption) | assumption)
                have q523 : ((rd_T108 l1 x11_2).f0) < (l2.length : Int) := of_decide_eq_true (by first | (with_reducible assumption) | assumption)
                obtain ⟨ad523, e523, hx523_0⟩ := Kd.at_int HR2.out ((rd_T108 l1 x11_2).f0) p523 q523
                cases e523
                replace hx523_0 := (HB.out.cell (World.block_lt_of_cell? w _ hx523_0)).trans hx523_0
                replace p523 := eq_true p523
                replace q523 := eq_true q523
                go_wp2
                go_meet
                case rel => exact ⟨_, (rd l2 ((rd_T108 l1 x11_2).f0)), (by first | rfl | (simp; done) | (simp [*]; done)), H', ⟨by have := HK1.out; have := HK2.out; first | omega | exact Nat.le_refl _⟩, ⟨by (try simp only [hl9_1]); (try simp only [hl9_2]); (with_reducible repeat (first | apply Kd.R_alloc | apply Kd.R_drewN | apply Kd.R_drew)); exact HO_9.out⟩, ⟨by repeat (first | (with_reducible first | exact HB.out | apply below_alloc | apply pw_below_drewN | apply below_drew1) | exact HB.out)⟩⟩
               ·rw [if_neg c21] at H
                exact absurd H (by simp)
              ·rw [if_neg c20] at H
               exact absurd H (by simp)
             ·rw [if_neg c19] at H
              have c19b0 : decide (((rd_T108 l1 x11_2).f0) < a0) = false := decide_eq_false c19
              clear c19
              (first | rw [c19b0] | (simp only [i64_w, i32_w]; rw [c19b0]) | skip)
              have H' := Aside0.mk H
              clear H
              go_wp2
              go_meet
              case rel => exact ⟨_, (0), (by first | rfl | (simp; done) | (simp [*]; done)), H', ⟨by have := HK1.out; have := HK2.out; first | omega | exact Nat.le_refl _⟩, ⟨by (try simp only [hl9_1]); (try simp only [hl9_2]); (with_reducible repeat (first | apply Kd.R_alloc | apply Kd.R_drewN | apply Kd.R_drew)); exact HO_9.out⟩, ⟨by repeat (first | (with_reducible first | exact HB.out | apply below_alloc | apply pw_below_drewN | apply below_drew1) | exact HB.out)⟩⟩
            case rest =>
             clear HC18
             try clear c1
             try clear p1
             try clear q1
             try clear hx1
             try clear c2
             try clear p2
             try clear p5
             try clear q5
             try clear hx5
             try clear c6
             try clear c6b0
             try clear c6b1
             try clear p6
             try clear c7
             try clear c7b0
             try clear c7b1
             try clear c8
             try clear c8b0
             try clear c9
             try clear c9b0
             try clear p10
             try clear q10
             try clear hx10
             try clear hf10
             try clear c15
             try clear c16
             try clear c16b0
             try clear c17
             try clear c17b0
             try clear c19
             try clear c19b0
             try clear c20
             try clear c20b0
             try clear c21
             try clear c21b0
             try clear hx10_0
             try clear hx521_0
             try clear hx521_1
             try clear hx521_2
             try clear hx522_0
             try clear hx522_1
             try clear hx522_2
             try clear hx523_0
             try clear p1
             try clear p10
             try clear p2
             try clear p521
             try clear p522
             try clear p523
             try clear p6
             try clear q1
             try clear q10
             try clear q521
             try clear q522
             try clear q523
             obtain ⟨kq, x12_17, rfl, HA, HJ17, HO_9, HB⟩ := hcut
             cases kq with
             | zero => exact absurd HA.out (by simp [tenetref02_reached.j2])
             | succ kj17 =>
              have H := HA.out
              clear HA
              simp only [tenetref02_reached.j2] at H
              by_cases c22 : 0 ≤ x11_2
              ·rw [if_pos c22] at H
               have c22b0 : decide (0 ≤ x11_2) = true := decide_eq_true c22
               clear c22
               by_cases c23 : x11_2 < (l1.length : Int)
               ·rw [if_pos c23] at H
                have c23b0 : decide (x11_2 < (l1.length : Int)) = true := decide_eq_true c23
                clear c23
                by_cases c24 : ((rd_T108 l1 x11_2).f1) < a0
                ·rw [if_pos c24] at H
                 have c24b0 : decide (((rd_T108 l1 x11_2).f1) < a0) = true := decide_eq_true c24
                 clear c24
                 by_cases c25 : 0 ≤ ((rd_T108 l1 x11_2).f1)
                 ·rw [if_pos c25] at H
                  have c25b0 : decide (0 ≤ ((rd_T108 l1 x11_2).f1)) = true := decide_eq_true c25
                  clear c25
                  by_cases c26 : ((rd_T108 l1 x11_2).f1) < (l2.length : Int)
                  ·rw [if_pos c26] at H
                   have c26b0 : decide (((rd_T108 l1 x11_2).f1) < (l2.length : Int)) = true := decide_eq_true c26
                   clear c26
                   by_cases c27 : 0 ≤ ((rd_T108 l1 x11_2).f0)
                   ·rw [if_pos c27] at H
                    have c27b0 : decide (0 ≤ ((rd_T108 l1 x11_2).f0)) = true := decide_eq_true c27
                    clear c27
                    by_cases c28 : ((rd_T108 l1 x11_2).f0) < (x9_2.length : Int)
                    ·rw [if_pos c28] at H
                     have c28b0 : decide (((rd_T108 l1 x11_2).f0) < (x9_2.length : Int)) = true := decide_eq_true c28
                     clear c28
                     obtain ⟨bq29, hbq29⟩ : ∃ b_ : Bool, b_ = (rdOf false x9_2 ((rd_T108 l1 x11_2).f0)) := ⟨_, rfl⟩
                     replace H : (if bq29 = true then (if ((rd_T108 l1 x11_2).f1) < (x9_2.length : Int) then (if (rdOf false x9_2 ((rd_T108 l1 x11_2).f1) = true) then (tenetref02_reached.l1 kj17 a0 l1 l2 x9_2 x10_2 (wrap64 (x11_2 + 1))) else (if (wrap64 (x12_17 + ((rd_T108 l1 x11_2).f2))) = (rd l2 ((rd_T108 l1 x11_2).f1)) then (tenetref02_reached.l1 kj17 a0 l1 l2 (x9_2.set (((rd_T108 l1 x11_2).f1) : Int).toNat true) true (wrap64 (x11_2 + 1))) else (tenetref02_reached.l1 kj17 a0 l1 l2 x9_2 x10_2 (wrap64 (x11_2 + 1))))) else (none)) else (tenetref02_reached.l1 kj17 a0 l1 l2 x9_2 x10_2 (wrap64 (x11_2 + 1)))) = some r := by rw [← hbq29] at H; exact H
                     have Nbq29 := Aside0.mk hbq29
                     clear hbq29
                     by_cases c30 : bq29 = true
                     ·subst c30
                      have H1 : (if ((rd_T108 l1 x11_2).f1) < (x9_2.length : Int) then (if (rdOf false x9_2 ((rd_T108 l1 x11_2).f1) = true) then (tenetref02_reached.l1 kj17 a0 l1 l2 x9_2 x10_2 (wrap64 (x11_2 + 1))) else (if (wrap64 (x12_17 + ((rd_T108 l1 x11_2).f2))) = (rd l2 ((rd_T108 l1 x11_2).f1)) then (tenetref02_reached.l1 kj17 a0 l1 l2 (x9_2.set (((rd_T108 l1 x11_2).f1) : Int).toNat true) true (wrap64 (x11_2 + 1))) else (tenetref02_reached.l1 kj17 a0 l1 l2 x9_2 x10_2 (wrap64 (x11_2 + 1))))) else (none)) = some r := by rw [if_pos rfl] at H; exact H
                      clear H
                      have H := H1
                      clear H1
                      by_cases c31 : ((rd_T108 l1 x11_2).f1) < (x9_2.length : Int)
                      ·rw [if_pos c31] at H
                       have c31b0 : decide (((rd_T108 l1 x11_2).f1) < (x9_2.length : Int)) = true := decide_eq_true c31
                       clear c31
                       obtain ⟨bq32, hbq32⟩ : ∃ b_ : Bool, b_ = (rdOf false x9_2 ((rd_T108 l1 x11_2).f1)) := ⟨_, rfl⟩
                       replace H : (if (bq32 = true) then (tenetref02_reached.l1 kj17 a0 l1 l2 x9_2 x10_2 (wrap64 (x11_2 + 1))) else (if (wrap64 (x12_17 + ((rd_T108 l1 x11_2).f2))) = (rd l2 ((rd_T108 l1 x11_2).f1)) then (tenetref02_reached.l1 kj17 a0 l1 l2 (x9_2.set (((rd_T108 l1 x11_2).f1) : Int).toNat true) true (wrap64 (x11_2 + 1))) else (tenetref02_reached.l1 kj17 a0 l1 l2 x9_2 x10_2 (wrap64 (x11_2 + 1))))) = some r := by rw [← hbq32] at H; exact H
                       have Nbq32 := Aside0.mk hbq32
                       clear hbq32
                       by_cases c33 : (bq32 = true)
                       ·subst c33
                        have H1 : (tenetref02_reached.l1 kj17 a0 l1 l2 x9_2 x10_2 (wrap64 (x11_2 + 1))) = some r := by rw [if_pos rfl] at H; exact H
                        clear H
                        have H := H1
                        clear H1
                        have H' := Aside0.mk H
                        clear H
                        have p524 : 0 ≤ (x11_2 : Int) := of_decide_eq_true (by first | (with_reducible assumption) | assumption)
                        have q524 : x11_2 < (l1.length : Int) := of_decide_eq_true (by first | (with_reducible assumption) | assumption)
                        obtain ⟨ad524, e524, hx524_0, hx524_1, hx524_2⟩ := at_T108 HR1.out x11_2 p524 q524
                        obtain rfl : ad521 = ad524 := (by injection e524)
                        replace hx524_0 := (HB.out.cell (World.block_lt_of_cell? w _ hx524_0)).trans hx524_0
                        replace hx524_1 := (HB.out.cell (World.block_lt_of_cell? w _ hx524_1)).trans hx524_1
                        replace hx524_2 := (HB.out.cell (World.block_lt_of_cell? w _ hx524_2)).trans hx524_2
                        replace p524 := eq_true p524
                        replace q524 := eq_true q524
                        have p525 : 0 ≤ (x11_2 : Int) := of_decide_eq_true (by first | (with_reducible assumption) | assumption)
                        have q525 : x11_2 < (l1.length : Int) := of_decide_eq_true (by first | (with_reducible assumption) | assumption)
                        obtain ⟨ad525, e525, hx525_0, hx525_1, hx525_2⟩ := at_T108 HR1.out x11_2 p525 q525
                        obtain rfl : ad521 = ad525 := (by injection e525)
                        replace hx525_0 := (HB.out.cell (World.block_lt_of_cell? w _ hx525_0)).trans hx525_0
                        replace hx525_1 := (HB.out.cell (World.block_lt_of_cell? w _ hx525_1)).trans hx525_1
                        replace hx525_2 := (HB.out.cell (World.block_lt_of_cell? w _ hx525_2)).trans hx525_2
                        replace p525 := eq_true p525
                        replace q525 := eq_true q525
                        have p526 : 0 ≤ (((rd_T108 l1 x11_2).f1) : Int) := of_decide_eq_true (by first | (with_reducible assumption) | assumption)
                        have q526 : ((rd_T108 l1 x11_2).f1) < (l2.length : Int) := of_decide_eq_true (by first | (with_reducible assumption) | assumption)
                        obtain ⟨ad526, e526, hx526_0⟩ := Kd.at_int HR2.out ((rd_T108 l1 x11_2).f1) p526 q526
                        cases e526
                        replace hx526_0 := (HB.out.cell (World.block_lt_of_cell? w _ hx526_0)).trans hx526_0
                        replace p526 := eq_true p526
                        replace q526 := eq_true q526
                        have p527 : 0 ≤ (x11_2 : Int) := of_decide_eq_true (by first | (with_reducible assumption) | assumption)
                        have q527 : x11_2 < (l1.length : Int) := of_decide_eq_true (by first | (with_reducible assumption) | assumption)
                        obtain ⟨ad527, e527, hx527_0, hx527_1, hx527_2⟩ := at_T108 HR1.out x11_2 p527 q527
                        obtain rfl : ad521 = ad527 := (by injection e527)
                        replace hx527_0 := (HB.out.cell (World.block_lt_of_cell? w _ hx527_0)).trans hx527_0
                        replace hx527_1 := (HB.out.cell (World.block_lt_of_cell? w _ hx527_1)).trans hx527_1
                        replace hx527_2 := (HB.out.cell (World.block_lt_of_cell? w _ hx527_2)).trans hx527_2
                        replace p527 := eq_true p527
                        replace q527 := eq_true q527
                        have p528 : 0 ≤ (((rd_T108 l1 x11_2).f0) : Int) := of_decide_eq_true (by first | (with_reducible assumption) | assumption)
                        have q528 : ((rd_T108 l1 x11_2).f0) < (x9_2.length : Int) := of_decide_eq_true (by first | (with_reducible assumption) | assumption)
                        obtain ⟨ad528, e528, hx528_0⟩ := Kd.at_bool (Kd.R_reads' HO_9.out).2.2 ((rd_T108 l1 x11_2).f0) p528 q528
                        (try rw [← Nbq29.out] at hx528_0)
                        (try rw [← Nbq32.out] at hx528_0)
                        obtain rfl : (⟨go10, 0, none⟩ : Addr) = ad528 := (by injection e528)
                        (first | simp only [add_plain] at hx528_0 | simp only [add_at] at hx528_0 | simp only [Addr.add, Nat.zero_add] at hx528_0 | skip)
                        replace p528 := eq_true p528
                        replace q528 := eq_true q528
                        have p529 : 0 ≤ (x11_2 : Int) := of_decide_eq_true (by first | (with_reducible assumption) | assumption)
                        have q529 : x11_2 < (l1.length : Int) := of_decide_eq_true (by first | (with_reducible assumption) | assumption)
                        obtain ⟨ad529, e529, hx529_0, hx529_1, hx529_2⟩ := at_T108 HR1.out x11_2 p529 q529
                        obtain rfl : ad521 = ad529 := (by injection e529)
                        replace hx529_0 := (HB.out.cell (World.block_lt_of_cell? w _ hx529_0)).trans hx529_0
                        replace hx529_1 := (HB.out.cell (World.block_lt_of_cell? w _ hx529_1)).trans hx529_1
                        replace hx529_2 := (HB.out.cell (World.block_lt_of_cell? w _ hx529_2)).trans hx529_2
                        replace p529 := eq_true p529
                        replace q529 := eq_true q529
                        have p530 : 0 ≤ (((rd_T108 l1 x11_2).f1) : Int) := of_decide_eq_true (by first | (with_reducible assumption) | assumption)
                        have q530 : ((rd_T108 l1 x11_2).f1) < (x9_2.length : Int) := of_decide_eq_true (by first | (with_reducible assumption) | assumption)
                        obtain ⟨ad530, e530, hx530_0⟩ := Kd.at_bool (Kd.R_reads' HO_9.out).2.2 ((rd_T108 l1 x11_2).f1) p530 q530
                        (try rw [← Nbq29.out] at hx530_0)
                        (try rw [← Nbq32.out] at hx530_0)
                        obtain rfl : (⟨go10, 0, none⟩ : Addr) = ad530 := (by injection e530)
                        (first | simp only [add_plain] at hx530_0 | simp only [add_at] at hx530_0 | simp only [Addr.add, Nat.zero_add] at hx530_0 | skip)
                        replace p530 := eq_true p530
                        replace q530 := eq_true q530
                        go_wp2
                        (try simp only [← hl9_2])
                        go_roundg kj17
                        case measure => have := HK1.out; have := HK2.out; have := HJ17.out; omega
                        case rel => exact ⟨(x9_2), (x10_2), (wrap64 (x11_2 + 1)), (by first | rfl | (simp; done) | (simp [*]; done)), (by first | rfl | (simp; done) | (simp [*]; done)), H', ⟨by have := HK1.out; have := HK2.out; have := HJ17.out; omega⟩, ⟨by (try simp only [hl9_1]); (try simp only [hl9_2]); (with_reducible repeat (first | apply Kd.R_alloc | apply Kd.R_drewN | apply Kd.R_drew)); exact HO_9.out⟩, ⟨by repeat (first | (with_reducible first | exact HB.out | apply below_alloc | apply pw_below_drewN | apply below_drew1) | exact HB.out)⟩⟩
                       ·replace c33 := Bool.eq_false_iff.mpr c33
                        subst c33
                        have H1 : (if (wrap64 (x12_17 + ((rd_T108 l1 x11_2).f2))) = (rd l2 ((rd_T108 l1 x11_2).f1)) then (tenetref02_reached.l1 kj17 a0 l1 l2 (x9_2.set (((rd_T108 l1 x11_2).f1) : Int).toNat true) true (wrap64 (x11_2 + 1))) else (tenetref02_reached.l1 kj17 a0 l1 l2 x9_2 x10_2 (wrap64 (x11_2 + 1)))) = some r := by rw [if_neg (show ¬ (false = true) by decide)] at H; exact H
                        clear H
                        have H := H1
                        clear H1
                        by_cases c34 : (wrap64 (x12_17 + ((rd_T108 l1 x11_2).f2))) = (rd l2 ((rd_T108 l1 x11_2).f1))
                        ·rw [if_pos c34] at H
                         have c34b0 : ((wrap64 (x12_17 + ((rd_T108 l1 x11_2).f2))) == (rd l2 ((rd_T108 l1 x11_2).f1))) = true := beq_iff_eq.mpr c34
                         have c34b1 : ((wrap64 (x12_17 + ((rd_T108 l1 x11_2).f2))) != (rd l2 ((rd_T108 l1 x11_2).f1))) = false := bne_eq_false_iff_eq.mpr c34
                         clear c34
                         obtain ⟨y533, hy533⟩ : ∃ y_ : List Bool, y_ = (x9_2.set (((rd_T108 l1 x11_2).f1) : Int).toNat true) := ⟨_, rfl⟩
                         replace H : (tenetref02_reached.l1 kj17 a0 l1 l2 y533 true (wrap64 (x11_2 + 1))) = some r := by first | (rw [hy533]; with_reducible exact H) | (have H2_ := (Option.bind_some _ _).symm.trans H; rw [hy533]; with_reducible exact H2_) | (have H2_ := (Option.bind_some _ _).symm.trans H; with_reducible exact H2_) | with_reducible exact H | (rw [hy533]; exact H) | exact H
                         have Ny533 := Aside0.mk hy533
                         clear hy533
                         have H' := Aside0.mk H
                         clear H
                         have p524 : 0 ≤ (x11_2 : Int) := of_decide_eq_true (by first | (with_reducible assumption) | assumption)
                         have q524 : x11_2 < (l1.length : Int) := of_decide_eq_true (by first | (with_reducible assumption) | assumption)
                         obtain ⟨ad524, e524, hx524_0, hx524_1, hx524_2⟩ := at_T108 HR1.out x11_2 p524 q524
                         obtain rfl : ad521 = ad524 := (by injection e524)
                         replace hx524_0 := (HB.out.cell (World.block_lt_of_cell? w _ hx524_0)).trans hx524_0
                         replace hx524_1 := (HB.out.cell (World.block_lt_of_cell? w _ hx524_1)).trans hx524_1
                         replace hx524_2 := (HB.out.cell (World.block_lt_of_cell? w _ hx524_2)).trans hx524_2
                         replace p524 := eq_true p524
                         replace q524 := eq_true q524
                         have p525 : 0 ≤ (x11_2 : Int) := of_decide_eq_true (by first | (with_reducible assumption) | assumption)
                         have q525 : x11_2 < (l1.length : Int) := of_decide_eq_true (by first | (with_reducible assumption) | assumption)
                         obtain ⟨ad525, e525, hx525_0, hx525_1, hx525_2⟩ := at_T108 HR1.out x11_2 p525 q525
                         obtain rfl : ad521 = ad525 := (by injection e525)
                         replace hx525_0 := (HB.out.cell (World.block_lt_of_cell? w _ hx525_0)).trans hx525_0
                         replace hx525_1 := (HB.out.cell (World.block_lt_of_cell? w _ hx525_1)).trans hx525_1
                         replace hx525_2 := (HB.out.cell (World.block_lt_of_cell? w _ hx525_2)).trans hx525_2
                         replace p525 := eq_true p525
                         replace q525 := eq_true q525
                         have p526 : 0 ≤ (((rd_T108 l1 x11_2).f1) : Int) := of_decide_eq_true (by first | (with_reducible assumption) | assumption)
                         have q526 : ((rd_T108 l1 x11_2).f1) < (l2.length : Int) := of_decide_eq_true (by first | (with_reducible assumption) | assumption)
                         obtain ⟨ad526, e526, hx526_0⟩ := Kd.at_int HR2.out ((rd_T108 l1 x11_2).f1) p526 q526
                         cases e526
                         replace hx526_0 := (HB.out.cell (World.block_lt_of_cell? w _ hx526_0)).trans hx526_0
                         replace p526 := eq_true p526
                         replace q526 := eq_true q526
                         have p527 : 0 ≤ (x11_2 : Int) := of_decide_eq_true (by first | (with_reducible assumption) | assumption)
                         have q527 : x11_2 < (l1.length : Int) := of_decide_eq_true (by first | (with_reducible assumption) | assumption)
                         obtain ⟨ad527, e527, hx527_0, hx527_1, hx527_2⟩ := at_T108 HR1.out x11_2 p527 q527
                         obtain rfl : ad521 = ad527 := (by injection e527)
                         replace hx527_0 := (HB.out.cell (World.block_lt_of_cell? w _ hx527_0)).trans hx527_0
                         replace hx527_1 := (HB.out.cell (World.block_lt_of_cell? w _ hx527_1)).trans hx527_1
                         replace hx527_2 := (HB.out.cell (World.block_lt_of_cell? w _ hx527_2)).trans hx527_2
                         replace p527 := eq_true p527
                         replace q527 := eq_true q527
                         have p528 : 0 ≤ (((rd_T108 l1 x11_2).f0) : Int) := of_decide_eq_true (by first | (with_reducible assumption) | assumption)
                         have q528 : ((rd_T108 l1 x11_2).f0) < (x9_2.length : Int) := of_decide_eq_true (by first | (with_reducible assumption) | assumption)
                         obtain ⟨ad528, e528, hx528_0⟩ := Kd.at_bool (Kd.R_reads' HO_9.out).2.2 ((rd_T108 l1 x11_2).f0) p528 q528
                         (try rw [← Nbq29.out] at hx528_0)
                         (try rw [← Nbq32.out] at hx528_0)
                         obtain rfl : (⟨go10, 0, none⟩ : Addr) = ad528 := (by injection e528)
                         (first | simp only [add_plain] at hx528_0 | simp only [add_at] at hx528_0 | simp only [Addr.add, Nat.zero_add] at hx528_0 | skip)
                         replace p528 := eq_true p528
                         replace q528 := eq_true q528
                         have p529 : 0 ≤ (x11_2 : Int) := of_decide_eq_true (by first | (with_reducible assumption) | assumption)
                         have q529 : x11_2 < (l1.length : Int) := of_decide_eq_true (by first | (with_reducible assumption) | assumption)
                         obtain ⟨ad529, e529, hx529_0, hx529_1, hx529_2⟩ := at_T108 HR1.out x11_2 p529 q529
                         obtain rfl : ad521 = ad529 := (by injection e529)
                         replace hx529_0 := (HB.out.cell (World.block_lt_of_cell? w _ hx529_0)).trans hx529_0
                         replace hx529_1 := (HB.out.cell (World.block_lt_of_cell? w _ hx529_1)).trans hx529_1
                         replace hx529_2 := (HB.out.cell (World.block_lt_of_cell? w _ hx529_2)).trans hx529_2
                         replace p529 := eq_true p529
                         replace q529 := eq_true q529
                         have p530 : 0 ≤ (((rd_T108 l1 x11_2).f1) : Int) := of_decide_eq_true (by first | (with_reducible assumption) | assumption)
                         have q530 : ((rd_T108 l1 x11_2).f1) < (x9_2.length : Int) := of_decide_eq_true (by first | (with_reducible assumption) | assumption)
                         obtain ⟨ad530, e530, hx530_0⟩ := Kd.at_bool (Kd.R_reads' HO_9.out).2.2 ((rd_T108 l1 x11_2).f1) p530 q530
                         (try rw [← Nbq29.out] at hx530_0)
                         (try rw [← Nbq32.out] at hx530_0)
                         obtain rfl : (⟨go10, 0, none⟩ : Addr) = ad530 := (by injection e530)
                         (first | simp only [add_plain] at hx530_0 | simp only [add_at] at hx530_0 | simp only [Addr.add, Nat.zero_add] at hx530_0 | skip)
                         replace p530 := eq_true p530
                         replace q530 := eq_true q530
                         have p531 : 0 ≤ (x11_2 : Int) := of_decide_eq_true (by first | (with_reducible assumption) | assumption)
                         have q531 : x11_2 < (l1.length : Int) := of_decide_eq_true (by first | (with_reducible assumption) | assumption)
                         obtain ⟨ad531, e531, hx531_0, hx531_1, hx531_2⟩ := at_T108 HR1.out x11_2 p531 q531
                         obtain rfl : ad521 = ad531 := (by injection e531)
                         replace hx531_0 := (HB.out.cell (World.block_lt_of_cell? w _ hx531_0)).trans hx531_0
                         replace hx531_1 := (HB.out.cell (World.block_lt_of_cell? w _ hx531_1)).trans hx531_1
                         replace hx531_2 := (HB.out.cell (World.block_lt_of_cell? w _ hx531_2)).trans hx531_2
                         replace p531 := eq_true p531
                         replace q531 := eq_true q531
                         have p532 : 0 ≤ (x11_2 : Int) := of_decide_eq_true (by first | (with_reducible assumption) | assumption)
                         have q532 : x11_2 < (l1.length : Int) := of_decide_eq_true (by first | (with_reducible assumption) | assumption)
                         obtain ⟨ad532, e532, hx532_0, hx532_1, hx532_2⟩ := at_T108 HR1.out x11_2 p532 q532
                         obtain rfl : ad521 = ad532 := (by injection e532)
                         replace hx532_0 := (HB.out.cell (World.block_lt_of_cell? w _ hx532_0)).trans hx532_0
                         replace hx532_1 := (HB.out.cell (World.block_lt_of_cell? w _ hx532_1)).trans hx532_1
                         replace hx532_2 := (HB.out.cell (World.block_lt_of_cell? w _ hx532_2)).trans hx532_2
                         replace p532 := eq_true p532
                         replace q532 := eq_true q532
                         have p35 : 0 ≤ (((rd_T108 l1 x11_2).f1) : Int) := of_decide_eq_true (by first | (with_reducible assumption) | assumption)
                         have q35 : (((rd_T108 l1 x11_2).f1) : Int) < ((x9_2.length : Int) : Int) := of_decide_eq_true (by first | (with_reducible assumption) | assumption)
                         obtain ⟨hx35_0, hf35_0⟩ := Kd.R_celln false HO_9.out (((rd_T108 l1 x11_2).f1) : Int) p35 q35
                         replace p35 := eq_true p35
                         replace q35 := eq_true q35
                         have HP36 := Kd.R_putg HO_9.out (((rd_T108 l1 x11_2).f1) : Int) true
                         go_wp2_with (first | ((with_reducible refine gate_store (t := 4) (p := 93) rfl ?_); refine store_event (t := 4) (p := 93) (v := ?vo_w37) (w1 := (wc.setCell ⟨go10, (((rd_T108 l1 x11_2).f1) : Int).toNat, none⟩ (.bool true))) ?hg ?ho ?hn ?hr ?_; (case ho => rfl); (case hg => rfl); (case hn => rfl); (case hr => first | (go_simp; done) | (go_simp; rfl)); intro w37 hw; have hg : wc.grownBy w37 (some go10) := (by rw [hw]; exact HP36.2); have hp_ : Kd.R Kd.bool 4 w37 w.heap.size (fun _ => True) (.slice (some ⟨go10, 0, none⟩) x9_2.length co10) y533 := (by rw [hw, Ny533.out]; exact HP36.1); clear HP36; have n0_ := Aside0.mk (hp_); have n1_ := Aside0.mk ((by rw [hw]; exact below_set (HB.out) GB10.out : Below w.heap.size w w37)); clear HO_9; clear HB; have HO_9 := n0_; have HB := n1_; clear n0_ n1_; clear hg hw hp_))
                         (try simp only [← hl9_2])
                         go_roundg kj17
                         case measure => have := HK1.out; have := HK2.out; have := HJ17.out; omega
                         case rel => exact ⟨(y533), (true), (wrap64 (x11_2 + 1)), (by first | rfl | (simp; done) | (simp [*]; done)), (by first | rfl | (simp; done) | (simp [*]; done)), H', ⟨by have := HK1.out; have := HK2.out; have := HJ17.out; omega⟩, ⟨by (try simp only [hl9_1]); (try simp only [hl9_2]); (with_reducible repeat (first | apply Kd.R_alloc | apply Kd.R_drewN | apply Kd.R_drew)); exact HO_9.out⟩, ⟨by repeat (first | (with_reducible first | exact HB.out | apply below_alloc | apply pw_below_drewN | apply below_drew1) | exact HB.out)⟩⟩
                        ·rw [if_neg c34] at H
                         have c34b0 : ((wrap64 (x12_17 + ((rd_T108 l1 x11_2).f2))) == (rd l2 ((rd_T108 l1 x11_2).f1))) = false := beq_eq_false_iff_ne.mpr c34
                         have c34b1 : ((wrap64 (x12_17 + ((rd_T108 l1 x11_2).f2))) != (rd l2 ((rd_T108 l1 x11_2).f1))) = true := bne_iff_ne.mpr c34
                         have H' := Aside0.mk H
                         clear H
                         have p524 : 0 ≤ (x11_2 : Int) := of_decide_eq_true (by first | (with_reducible assumption) | assumption)
                         have q524 : x11_2 < (l1.length : Int) := of_decide_eq_true (by first | (with_reducible assumption) | assumption)
                         obtain ⟨ad524, e524, hx524_0, hx524_1, hx524_2⟩ := at_T108 HR1.out x11_2 p524 q524
                         obtain rfl : ad521 = ad524 := (by injection e524)
                         replace hx524_0 := (HB.out.cell (World.block_lt_of_cell? w _ hx524_0)).trans hx524_0
                         replace hx524_1 := (HB.out.cell (World.block_lt_of_cell? w _ hx524_1)).trans hx524_1
                         replace hx524_2 := (HB.out.cell (World.block_lt_of_cell? w _ hx524_2)).trans hx524_2
                         replace p524 := eq_true p524
                         replace q524 := eq_true q524
                         have p525 : 0 ≤ (x11_2 : Int) := of_decide_eq_true (by first | (with_reducible assumption) | assumption)
                         have q525 : x11_2 < (l1.length : Int) := of_decide_eq_true (by first | (with_reducible assumption) | assumption)
                         obtain ⟨ad525, e525, hx525_0, hx525_1, hx525_2⟩ := at_T108 HR1.out x11_2 p525 q525
                         obtain rfl : ad521 = ad525 := (by injection e525)
                         replace hx525_0 := (HB.out.cell (World.block_lt_of_cell? w _ hx525_0)).trans hx525_0
                         replace hx525_1 := (HB.out.cell (World.block_lt_of_cell? w _ hx525_1)).trans hx525_1
                         replace hx525_2 := (HB.out.cell (World.block_lt_of_cell? w _ hx525_2)).trans hx525_2
                         replace p525 := eq_true p525
                         replace q525 := eq_true q525
                         have p526 : 0 ≤ (((rd_T108 l1 x11_2).f1) : Int) := of_decide_eq_true (by first | (with_reducible assumption) | assumption)
                         have q526 : ((rd_T108 l1 x11_2).f1) < (l2.length : Int) := of_decide_eq_true (by first | (with_reducible assumption) | assumption)
                         obtain ⟨ad526, e526, hx526_0⟩ := Kd.at_int HR2.out ((rd_T108 l1 x11_2).f1) p526 q526
                         cases e526
                         replace hx526_0 := (HB.out.cell (World.block_lt_of_cell? w _ hx526_0)).trans hx526_0
                         replace p526 := eq_true p526
                         replace q526 := eq_true q526
                         have p527 : 0 ≤ (x11_2 : Int) := of_decide_eq_true (by first | (with_reducible assumption) | assumption)
                         have q527 : x11_2 < (l1.length : Int) := of_decide_eq_true (by first | (with_reducible assumption) | assumption)
                         obtain ⟨ad527, e527, hx527_0, hx527_1, hx527_2⟩ := at_T108 HR1.out x11_2 p527 q527
                         obtain rfl : ad521 = ad527 := (by injection e527)
                         replace hx527_0 := (HB.out.cell (World.block_lt_of_cell? w _ hx527_0)).trans hx527_0
                         replace hx527_1 := (HB.out.cell (World.block_lt_of_cell? w _ hx527_1)).trans hx527_1
                         replace hx527_2 := (HB.out.cell (World.block_lt_of_cell? w _ hx527_2)).trans hx527_2
                         replace p527 := eq_true p527
                         replace q527 := eq_true q527
                         have p528 : 0 ≤ (((rd_T108 l1 x11_2).f0) : Int) := of_decide_eq_true (by first | (with_reducible assumption) | assumption)
                         have q528 : ((rd_T108 l1 x11_2).f0) < (x9_2.length : Int) := of_decide_eq_true (by first | (with_reducible assumption) | assumption)
                         obtain ⟨ad528, e528, hx528_0⟩ := Kd.at_bool (Kd.R_reads' HO_9.out).2.2 ((rd_T108 l1 x11_2).f0) p528 q528
                         (try rw [← Nbq29.out] at hx528_0)
                         (try rw [← Nbq32.out] at hx528_0)
                         obtain rfl : (⟨go10, 0, none⟩ : Addr) = ad528 := (by injection e528)
                         (first | simp only [add_plain] at hx528_0 | simp only [add_at] at hx528_0 | simp only [Addr.add, Nat.zero_add] at hx528_0 | skip)
                         replace p528 := eq_true p528
                         replace q528 := eq_true q528
                         have p529 : 0 ≤ (x11_2 : Int) := of_decide_eq_true (by first | (with_reducible assumption) | assumption)
                         have q529 : x11_2 < (l1.length : Int) := of_decide_eq_true (by first | (with_reducible assumption) | assumption)
                         obtain ⟨ad529, e529, hx529_0, hx529_1, hx529_2⟩ := at_T108 HR1.out x11_2 p529 q529
                         obtain rfl : ad521 = ad529 := (by injection e529)
                         replace hx529_0 := (HB.out.cell (World.block_lt_of_cell? w _ hx529_0)).trans hx529_0
                         replace hx529_1 := (HB.out.cell (World.block_lt_of_cell? w _ hx529_1)).trans hx529_1
                         replace hx529_2 := (HB.out.cell (World.block_lt_of_cell? w _ hx529_2)).trans hx529_2
                         replace p529 := eq_true p529
                         replace q529 := eq_true q529
                         have p530 : 0 ≤ (((rd_T108 l1 x11_2).f1) : Int) := of_decide_eq_true (by first | (with_reducible assumption) | assumption)
                         have q530 : ((rd_T108 l1 x11_2).f1) < (x9_2.length : Int) := of_decide_eq_true (by first | (with_reducible assumption) | assumption)
                         obtain ⟨ad530, e530, hx530_0⟩ := Kd.at_bool (Kd.R_reads' HO_9.out).2.2 ((rd_T108 l1 x11_2).f1) p530 q530
                         (try rw [← Nbq29.out] at hx530_0)
                         (try rw [← Nbq32.out] at hx530_0)
                         obtain rfl : (⟨go10, 0, none⟩ : Addr) = ad530 := (by injection e530)
                         (first | simp only [add_plain] at hx530_0 | simp only [add_at] at hx530_0 | simp only [Addr.add, Nat.zero_add] at hx530_0 | skip)
                         replace p530 := eq_true p530
                         replace q530 := eq_true q530
                         have p531 : 0 ≤ (x11_2 : Int) := of_decide_eq_true (by first | (with_reducible assumption) | assumption)
                         have q531 : x11_2 < (l1.length : Int) := of_decide_eq_true (by first | (with_reducible assumption) | assumption)
                         obtain ⟨ad531, e531, hx531_0, hx531_1, hx531_2⟩ := at_T108 HR1.out x11_2 p531 q531
                         obtain rfl : ad521 = ad531 := (by injection e531)
                         replace hx531_0 := (HB.out.cell (World.block_lt_of_cell? w _ hx531_0)).trans hx531_0
                         replace hx531_1 := (HB.out.cell (World.block_lt_of_cell? w _ hx531_1)).trans hx531_1
                         replace hx531_2 := (HB.out.cell (World.block_lt_of_cell? w _ hx531_2)).trans hx531_2
                         replace p531 := eq_true p531
                         replace q531 := eq_true q531
                         go_wp2
                         (try simp only [← hl9_2])
                         go_roundg kj17
                         case measure => have := HK1.out; have := HK2.out; have := HJ17.out; omega
                         case rel => exact ⟨(x9_2), (x10_2), (wrap64 (x11_2 + 1)), (by first | rfl | (simp; done) | (simp [*]; done)), (by first | rfl | (simp; done) | (simp [*]; done)), H', ⟨by have := HK1.out; have := HK2.out; have := HJ17.out; omega⟩, ⟨by (try simp only [hl9_1]); (try simp only [hl9_2]); (with_reducible repeat (first | apply Kd.R_alloc | apply Kd.R_drewN | apply Kd.R_drew)); exact HO_9.out⟩, ⟨by repeat (first | (with_reducible first | exact HB.out | apply below_alloc | apply pw_below_drewN | apply below_drew1) | exact HB.out)⟩⟩
                      ·rw [if_neg c31] at H
                       exact absurd H (by simp)
                     ·replace c30 := Bool.eq_false_iff.mpr c30
                      subst c30
                      have H1 : (tenetref02_reached.l1 kj17 a0 l1 l2 x9_2 x10_2 (wrap64 (x11_2 + 1))) = some r := by rw [if_neg (show ¬ (false = true) by decide)] at H; exact H
                      clear H
                      have H := H1
                      clear H1
                      have H' := Aside0.mk H
                      clear H
                      have p524 : 0 ≤ (x11_2 : Int) := of_decide_eq_true (by first | (with_reducible assumption) | assumption)
                      have q524 : x11_2 < (l1.length : Int) := of_decide_eq_true (by first | (with_reducible assumption) | assumption)
                      obtain ⟨ad524, e524, hx524_0, hx524_1, hx524_2⟩ := at_T108 HR1.out x11_2 p524 q524
                      obtain rfl : ad521 = ad524 := (by injection e524)
                      replace hx524_0 := (HB.out.cell (World.block_lt_of_cell? w _ hx524_0)).trans hx524_0
                      replace hx524_1 := (HB.out.cell (World.block_lt_of_cell? w _ hx524_1)).trans hx524_1
                      replace hx524_2 := (HB.out.cell (World.block_lt_of_cell? w _ hx524_2)).trans hx524_2
                      replace p524 := eq_true p524
                      replace q524 := eq_true q524
                      have p525 : 0 ≤ (x11_2 : Int) := of_decide_eq_true (by first | (with_reducible assumption) | assumption)
                      have q525 : x11_2 < (l1.length : Int) := of_decide_eq_true (by first | (with_reducible assumption) | assumption)
                      obtain ⟨ad525, e525, hx525_0, hx525_1, hx525_2⟩ := at_T108 HR1.out x11_2 p525 q525
                      obtain rfl : ad521 = ad525 := (by injection e525)
                      replace hx525_0 := (HB.out.cell (World.block_lt_of_cell? w _ hx525_0)).trans hx525_0
                      replace hx525_1 := (HB.out.cell (World.block_lt_of_cell? w _ hx525_1)).trans hx525_1
                      replace hx525_2 := (HB.out.cell (World.block_lt_of_cell? w _ hx525_2)).trans hx525_2
                      replace p525 := eq_true p525
                      replace q525 := eq_true q525
                      have p526 : 0 ≤ (((rd_T108 l1 x11_2).f1) : Int) := of_decide_eq_true (by first | (with_reducible assumption) | assumption)
                      have q526 : ((rd_T108 l1 x11_2).f1) < (l2.length : Int) := of_decide_eq_true (by first | (with_reducible assumption) | assumption)
                      obtain ⟨ad526, e526, hx526_0⟩ := Kd.at_int HR2.out ((rd_T108 l1 x11_2).f1) p526 q526
                      cases e526
                      replace hx526_0 := (HB.out.cell (World.block_lt_of_cell? w _ hx526_0)).trans hx526_0
                      replace p526 := eq_true p526
                      replace q526 := eq_true q526
                      have p527 : 0 ≤ (x11_2 : Int) := of_decide_eq_true (by first | (with_reducible assumption) | assumption)
                      have q527 : x11_2 < (l1.length : Int) := of_decide_eq_true (by first | (with_reducible assumption) | assumption)
                      obtain ⟨ad527, e527, hx527_0, hx527_1, hx527_2⟩ := at_T108 HR1.out x11_2 p527 q527
                      obtain rfl : ad521 = ad527 := (by injection e527)
                      replace hx527_0 := (HB.out.cell (World.block_lt_of_cell? w _ hx527_0)).trans hx527_0
                      replace hx527_1 := (HB.out.cell (World.block_lt_of_cell? w _ hx527_1)).trans hx527_1
                      replace hx527_2 := (HB.out.cell (World.block_lt_of_cell? w _ hx527_2)).trans hx527_2
                      replace p527 := eq_true p527
                      replace q527 := eq_true q527
                      have p528 : 0 ≤ (((rd_T108 l1 x11_2).f0) : Int) := of_decide_eq_true (by first | (with_reducible assumption) | assumption)
                      have q528 : ((rd_T108 l1 x11_2).f0) < (x9_2.length : Int) := of_decide_eq_true (by first | (with_reducible assumption) | assumption)
                      obtain ⟨ad528, e528, hx528_0⟩ := Kd.at_bool (Kd.R_reads' HO_9.out).2.2 ((rd_T108 l1 x11_2).f0) p528 q528
                      (try rw [← Nbq29.out] at hx528_0)
                      obtain rfl : (⟨go10, 0, none⟩ : Addr) = ad528 := (by injection e528)
                      (first | simp only [add_plain] at hx528_0 | simp only [add_at] at hx528_0 | simp only [Addr.add, Nat.zero_add] at hx528_0 | skip)
                      replace p528 := eq_true p528
                      replace q528 := eq_true q528
                      go_wp2
                      (try simp only [← hl9_2])
                      go_roundg kj17
                      case measure => have := HK1.out; have := HK2.out; have := HJ17.out; omega
                      case rel => exact ⟨(x9_2), (x10_2), (wrap64 (x11_2 + 1)), (by first | rfl | (simp; done) | (simp [*]; done)), (by first | rfl | (simp; done) | (simp [*]; done)), H', ⟨by have := HK1.out; have := HK2.out; have := HJ17.out; omega⟩, ⟨by (try simp only [hl9_1]); (try simp only [hl9_2]); (with_reducible repeat (first | apply Kd.R_alloc | apply Kd.R_drewN | apply Kd.R_drew)); exact HO_9.out⟩, ⟨by repeat (first | (with_reducible first | exact HB.out | apply below_alloc | apply pw_below_drewN | apply below_drew1) | exact HB.out)⟩⟩
                    ·rw [if_neg c28] at H
                     exact absurd H (by simp)
                   ·rw [if_neg c27] at H
                    exact absurd H (by simp)
                  ·rw [if_neg c26] at H
                   exact absurd H (by simp)
                 ·rw [if_neg c25] at H
                  exact absurd H (by simp)
                ·rw [if_neg c24] at H
                 have c24b0 : decide (((rd_T108 l1 x11_2).f1) < a0) = false := decide_eq_false c24
                 clear c24
                 by_cases c38 : 0 ≤ ((rd_T108 l1 x11_2).f0)
                 ·rw [if_pos c38] at H
                  have c38b0 : decide (0 ≤ ((rd_T108 l1 x11_2).f0)) = true := decide_eq_true c38
                  clear c38
                  by_cases c39 : ((rd_T108 l1 x11_2).f0) < (x9_2.length : Int)
                  ·rw [if_pos c39] at H
                   have c39b0 : decide (((rd_T108 l1 x11_2).f0) < (x9_2.length : Int)) = true := decide_eq_true c39
                   clear c39
                   obtain ⟨bq40, hbq40⟩ : ∃ b_ : Bool, b_ = (rdOf false x9_2 ((rd_T108 l1 x11_2).f0)) := ⟨_, rfl⟩
                   replace H : (if bq40 = true then (if 0 ≤ ((rd_T108 l1 x11_2).f1) then (if ((rd_T108 l1 x11_2).f1) < (x9_2.length : Int) then (if (rdOf false x9_2 ((rd_T108 l1 x11_2).f1) = true) then (tenetref02_reached.l1 kj17 a0 l1 l2 x9_2 x10_2 (wrap64 (x11_2 + 1))) else (if (wrap64 (x12_17 + ((rd_T108 l1 x11_2).f2))) = 0 then (tenetref02_reached.l1 kj17 a0 l1 l2 (x9_2.set (((rd_T108 l1 x11_2).f1) : Int).toNat true) true (wrap64 (x11_2 + 1))) else (tenetref02_reached.l1 kj17 a0 l1 l2 x9_2 x10_2 (wrap64 (x11_2 + 1))))) else (none)) else (none)) else (tenetref02_reached.l1 kj17 a0 l1 l2 x9_2 x10_2 (wrap64 (x11_2 + 1)))) = some r := by rw [← hbq40] at H; exact H
                   have Nbq40 := Aside0.mk hbq40
                   clear hbq40
                   by_cases c41 : bq40 = true
                   ·subst c41
                    have H1 : (if 0 ≤ ((rd_T108 l1 x11_2).f1) then (if ((rd_T108 l1 x11_2).f1) < (x9_2.length : Int) then (if (rdOf false x9_2 ((rd_T108 l1 x11_2).f1) = true) then (tenetref02_reached.l1 kj17 a0 l1 l2 x9_2 x10_2 (wrap64 (x11_2 + 1))) else (if (wrap64 (x12_17 + ((rd_T108 l1 x11_2).f2))) = 0 then (tenetref02_reached.l1 kj17 a0 l1 l2 (x9_2.set (((rd_T108 l1 x11_2).f1) : Int).toNat true) true (wrap64 (x11_2 + 1))) else (tenetref02_reached.l1 kj17 a0 l1 l2 x9_2 x10_2 (wrap64 (x11_2 + 1))))) else (none)) else (none)) = some r := by rw [if_pos rfl] at H; exact H
                    clear H
                    have H := H1
                    clear H1
                    by_cases c42 : 0 ≤ ((rd_T108 l1 x11_2).f1)
                    ·rw [if_pos c42] at H
                     have c42b0 : decide (0 ≤ ((rd_T108 l1 x11_2).f1)) = true := decide_eq_true c42
                     clear c42
                     by_cases c43 : ((rd_T108 l1 x11_2).f1) < (x9_2.length : Int)
                     ·rw [if_pos c43] at H
                      have c43b0 : decide (((rd_T108 l1 x11_2).f1) < (x9_2.length : Int)) = true := decide_eq_true c43
                      clear c43
                      obtain ⟨bq44, hbq44⟩ : ∃ b_ : Bool, b_ = (rdOf false x9_2 ((rd_T108 l1 x11_2).f1)) := ⟨_, rfl⟩
                      replace H : (if (bq44 = true) then (tenetref02_reached.l1 kj17 a0 l1 l2 x9_2 x10_2 (wrap64 (x11_2 + 1))) else (if (wrap64 (x12_17 + ((rd_T108 l1 x11_2).f2))) = 0 then (tenetref02_reached.l1 kj17 a0 l1 l2 (x9_2.set (((rd_T108 l1 x11_2).f1) : Int).toNat true) true (wrap64 (x11_2 + 1))) else (tenetref02_reached.l1 kj17 a0 l1 l2 x9_2 x10_2 (wrap64 (x11_2 + 1))))) = some r := by rw [← hbq44] at H; exact H
                      have Nbq44 := Aside0.mk hbq44
                      clear hbq44
                      by_cases c45 : (bq44 = true)
                      ·subst c45
                       have H1 : (tenetref02_reached.l1 kj17 a0 l1 l2 x9_2 x10_2 (wrap64 (x11_2 + 1))) = some r := by rw [if_pos rfl] at H; exact H
                       clear H
                       have H := H1
                       clear H1
                       have H' := Aside0.mk H
                       clear H
                       have p524 : 0 ≤ (x11_2 : Int) := of_decide_eq_true (by first | (with_reducible assumption) | assumption)
                       have q524 : x11_2 < (l1.length : Int) := of_decide_eq_true (by first | (with_reducible assumption) | assumption)
                       obtain ⟨ad524, e524, hx524_0, hx524_1, hx524_2⟩ := at_T108 HR1.out x11_2 p524 q524
                       obtain rfl : ad521 = ad524 := (by injection e524)
                       replace hx524_0 := (HB.out.cell (World.block_lt_of_cell? w _ hx524_0)).trans hx524_0
                       replace hx524_1 := (HB.out.cell (World.block_lt_of_cell? w _ hx524_1)).trans hx524_1
                       replace hx524_2 := (HB.out.cell (World.block_lt_of_cell? w _ hx524_2)).trans hx524_2
                       replace p524 := eq_true p524
                       replace q524 := eq_true q524
                       have p534 : 0 ≤ (x11_2 : Int) := of_decide_eq_true (by first | (with_reducible assumption) | assumption)
                       have q534 : x11_2 < (l1.length : Int) := of_decide_eq_true (by first | (with_reducible assumption) | assumption)
                       obtain ⟨ad534, e534, hx534_0, hx534_1, hx534_2⟩ := at_T108 HR1.out x11_2 p534 q534
                       obtain rfl : ad521 = ad534 := (by injection e534)
                       replace hx534_0 := (HB.out.cell (World.block_lt_of_cell? w _ hx534_0)).trans hx534_0
                       replace hx534_1 := (HB.out.cell (World.block_lt_of_cell? w _ hx534_1)).trans hx534_1
                       replace hx534_2 := (HB.out.cell (World.block_lt_of_cell? w _ hx534_2)).trans hx534_2
                       replace p534 := eq_true p534
                       replace q534 := eq_true q534
                       have p535 : 0 ≤ (((rd_T108 l1 x11_2).f0) : Int) := of_decide_eq_true (by first | (with_reducible assumption) | assumption)
                       have q535 : ((rd_T108 l1 x11_2).f0) < (x9_2.length : Int) := of_decide_eq_true (by first | (with_reducible assumption) | assumption)
                       obtain ⟨ad535, e535, hx535_0⟩ := Kd.at_bool (Kd.R_reads' HO_9.out).2.2 ((rd_T108 l1 x11_2).f0) p535 q535
                       (try rw [← Nbq40.out] at hx535_0)
                       (try rw [← Nbq44.out] at hx535_0)
                       obtain rfl : (⟨go10, 0, none⟩ : Addr) = ad535 := (by injection e535)
                       (first | simp only [add_plain] at hx535_0 | simp only [add_at] at hx535_0 | simp only [Addr.add, Nat.zero_add] at hx535_0 | skip)
                       replace p535 := eq_true p535
                       replace q535 := eq_true q535
                       have p536 : 0 ≤ (x11_2 : Int) := of_decide_eq_true (by first | (with_reducible assumption) | assumption)
                       have q536 : x11_2 < (l1.length : Int) := of_decide_eq_true (by first | (with_reducible assumption) | assumption)
                       obtain ⟨ad536, e536, hx536_0, hx536_1, hx536_2⟩ := at_T108 HR1.out x11_2 p536 q536
                       obtain rfl : ad521 = ad536 := (by injection e536)
                       replace hx536_0 := (HB.out.cell (World.block_lt_of_cell? w _ hx536_0)).trans hx536_0
                       replace hx536_1 := (HB.out.cell (World.block_lt_of_cell? w _ hx536_1)).trans hx536_1
                       replace hx536_2 := (HB.out.cell (World.block_lt_of_cell? w _ hx536_2)).trans hx536_2
                       replace p536 := eq_true p536
                       replace q536 := eq_true q536
                       have p537 : 0 ≤ (((rd_T108 l1 x11_2).f1) : Int) := of_decide_eq_true (by first | (with_reducible assumption) | assumption)
                       have q537 : ((rd_T108 l1 x11_2).f1) < (x9_2.length : Int) := of_decide_eq_true (by first | (with_reducible assumption) | assumption)
                       obtain ⟨ad537, e537, hx537_0⟩ := Kd.at_bool (Kd.R_reads' HO_9.out).2.2 ((rd_T108 l1 x11_2).f1) p537 q537
                       (try rw [← Nbq40.out] at hx537_0)
                       (try rw [← Nbq44.out] at hx537_0)
                       obtain rfl : (⟨go10, 0, none⟩ : Addr) = ad537 := (by injection e537)
                       (first | simp only [add_plain] at hx537_0 | simp only [add_at] at hx537_0 | simp only [Addr.add, Nat.zero_add] at hx537_0 | skip)
                       replace p537 := eq_true p537
                       replace q537 := eq_true q537
                       go_wp2
                       (try simp only [← hl9_2])
                       go_roundg kj17
                       case measure => have := HK1.out; have := HK2.out; have := HJ17.out; omega
                       case rel => exact ⟨(x9_2), (x10_2), (wrap64 (x11_2 + 1)), (by first | rfl | (simp; done) | (simp [*]; done)), (by first | rfl | (simp; done) | (simp [*]; done)), H', ⟨by have := HK1.out; have := HK2.out; have := HJ17.out; omega⟩, ⟨by (try simp only [hl9_1]); (try simp only [hl9_2]); (with_reducible repeat (first | apply Kd.R_alloc | apply Kd.R_drewN | apply Kd.R_drew)); exact HO_9.out⟩, ⟨by repeat (first | (with_reducible first | exact HB.out | apply below_alloc | apply pw_below_drewN | apply below_drew1) | exact HB.out)⟩⟩
                      ·replace c45 := Bool.eq_false_iff.mpr c45
                       subst c45
                       have H1 : (if (wrap64 (x12_17 + ((rd_T108 l1 x11_2).f2))) = 0 then (tenetref02_reached.l1 kj17 a0 l1 l2 (x9_2.set (((rd_T108 l1 x11_2).f1) : Int).toNat true) true (wrap64 (x11_2 + 1))) else (tenetref02_reached.l1 kj17 a0 l1 l2 x9_2 x10_2 (wrap64 (x11_2 + 1)))) = some r := by rw [if_neg (show ¬ (false = true) by decide)] at H; exact H
                       clear H
                       have H := H1
                       clear H1
                       by_cases c46 : (wrap64 (x12_17 + ((rd_T108 l1 x11_2).f2))) = 0
                       ·rw [if_pos c46] at H
                        have c46b0 : ((wrap64 (x12_17 + ((rd_T108 l1 x11_2).f2))) == 0) = true := beq_iff_eq.mpr c46
                        have c46b1 : ((wrap64 (x12_17 + ((rd_T108 l1 x11_2).f2))) != 0) = false := bne_eq_false_iff_eq.mpr c46
                        clear c46
                        obtain ⟨y540, hy540⟩ : ∃ y_ : List Bool, y_ = (x9_2.set (((rd_T108 l1 x11_2).f1) : Int).toNat true) := ⟨_, rfl⟩
                        replace H : (tenetref02_reached.l1 kj17 a0 l1 l2 y540 true (wrap64 (x11_2 + 1))) = some r := by first | (rw [hy540]; with_reducible exact H) | (have H2_ := (Option.bind_some _ _).symm.trans H; rw [hy540]; with_reducible exact H2_) | (have H2_ := (Option.bind_some _ _).symm.trans H; with_reducible exact H2_) | with_reducible exact H | (rw [hy540]; exact H) | exact H
                        have Ny540 := Aside0.mk hy540
                        clear hy540
                        have H' := Aside0.mk H
                        clear H
                        have p524 : 0 ≤ (x11_2 : Int) := of_decide_eq_true (by first | (with_reducible assumption) | assumption)
                        have q524 : x11_2 < (l1.length : Int) := of_decide_eq_true (by first | (with_reducible assumption) | assumption)
                        obtain ⟨ad524, e524, hx524_0, hx524_1, hx524_2⟩ := at_T108 HR1.out x11_2 p524 q524
                        obtain rfl : ad521 = ad524 := (by injection e524)
                        replace hx524_0 := (HB.out.cell (World.block_lt_of_cell? w _ hx524_0)).trans hx524_0
                        replace hx524_1 := (HB.out.cell (World.block_lt_of_cell? w _ hx524_1)).trans hx524_1
                        replace hx524_2 := (HB.out.cell (World.block_lt_of_cell? w _ hx524_2)).trans hx524_2
                        replace p524 := eq_true p524
                        replace q524 := eq_true q524
                        have p534 : 0 ≤ (x11_2 : Int) := of_decide_eq_true (by first | (with_reducible assumption) | assumption)
                        have q534 : x11_2 < (l1.length : Int) := of_decide_eq_true (by first | (with_reducible assumption) | assumption)
                        obtain ⟨ad534, e534, hx534_0, hx534_1, hx534_2⟩ := at_T108 HR1.out x11_2 p534 q534
                        obtain rfl : ad521 = ad534 := (by injection e534)
                        replace hx534_0 := (HB.out.cell (World.block_lt_of_cell? w _ hx534_0)).trans hx534_0
                        replace hx534_1 := (HB.out.cell (World.block_lt_of_cell? w _ hx534_1)).trans hx534_1
                        replace hx534_2 := (HB.out.cell (World.block_lt_of_cell? w _ hx534_2)).trans hx534_2
                        replace p534 := eq_true p534
                        replace q534 := eq_true q534
                        have p535 : 0 ≤ (((rd_T108 l1 x11_2).f0) : Int) := of_decide_eq_true (by first | (with_reducible assumption) | assumption)
                        have q535 : ((rd_T108 l1 x11_2).f0) < (x9_2.length : Int) := of_decide_eq_true (by first | (with_reducible assumption) | assumption)
                        obtain ⟨ad535, e535, hx535_0⟩ := Kd.at_bool (Kd.R_reads' HO_9.out).2.2 ((rd_T108 l1 x11_2).f0) p535 q535
                        (try rw [← Nbq40.out] at hx535_0)
                        (try rw [← Nbq44.out] at hx535_0)
                        obtain rfl : (⟨go10, 0, none⟩ : Addr) = ad535 := (by injection e535)
                        (first | simp only [add_plain] at hx535_0 | simp only [add_at] at hx535_0 | simp only [Addr.add, Nat.zero_add] at hx535_0 | skip)
                        replace p535 := eq_true p535
                        replace q535 := eq_true q535
                        have p536 : 0 ≤ (x11_2 : Int) := of_decide_eq_true (by first | (with_reducible assumption) | assumption)
                        have q536 : x11_2 < (l1.length : Int) := of_decide_eq_true (by first | (with_reducible assumption) | assumption)
                        obtain ⟨ad536, e536, hx536_0, hx536_1, hx536_2⟩ := at_T108 HR1.out x11_2 p536 q536
                        obtain rfl : ad521 = ad536 := (by injection e536)
                        replace hx536_0 := (HB.out.cell (World.block_lt_of_cell? w _ hx536_0)).trans hx536_0
                        replace hx536_1 := (HB.out.cell (World.block_lt_of_cell? w _ hx536_1)).trans hx536_1
                        replace hx536_2 := (HB.out.cell (World.block_lt_of_cell? w _ hx536_2)).trans hx536_2
                        replace p536 := eq_true p536
                        replace q536 := eq_true q536
                        have p537 : 0 ≤ (((rd_T108 l1 x11_2).f1) : Int) := of_decide_eq_true (by first | (with_reducible assumption) | assumption)
                        have q537 : ((rd_T108 l1 x11_2).f1) < (x9_2.length : Int) := of_decide_eq_true (by first | (with_reducible assumption) | assumption)
                        obtain ⟨ad537, e537, hx537_0⟩ := Kd.at_bool (Kd.R_reads' HO_9.out).2.2 ((rd_T108 l1 x11_2).f1) p537 q537
                        (try rw [← Nbq40.out] at hx537_0)
                        (try rw [← Nbq44.out] at hx537_0)
                        obtain rfl : (⟨go10, 0, none⟩ : Addr) = ad537 := (by injection e537)
                        (first | simp only [add_plain] at hx537_0 | simp only [add_at] at hx537_0 | simp only [Addr.add, Nat.zero_add] at hx537_0 | skip)
                        replace p537 := eq_true p537
                        replace q537 := eq_true q537
                        have p538 : 0 ≤ (x11_2 : Int) := of_decide_eq_true (by first | (with_reducible assumption) | assumption)
                        have q538 : x11_2 < (l1.length : Int) := of_decide_eq_true (by first | (with_reducible assumption) | assumption)
                        obtain ⟨ad538, e538, hx538_0, hx538_1, hx538_2⟩ := at_T108 HR1.out x11_2 p538 q538
                        obtain rfl : ad521 = ad538 := (by injection e538)
                        replace hx538_0 := (HB.out.cell (World.block_lt_of_cell? w _ hx538_0)).trans hx538_0
                        replace hx538_1 := (HB.out.cell (World.block_lt_of_cell? w _ hx538_1)).trans hx538_1
                        replace hx538_2 := (HB.out.cell (World.block_lt_of_cell? w _ hx538_2)).trans hx538_2
                        replace p538 := eq_true p538
                        replace q538 := eq_true q538
                        have p539 : 0 ≤ (x11_2 : Int) := of_decide_eq_true (by first | (with_reducible assumption) | assumption)
                        have q539 : x11_2 < (l1.length : Int) := of_decide_eq_true (by first | (with_reducible assumption) | assumption)
                        obtain ⟨ad539, e539, hx539_0, hx539_1, hx539_2⟩ := at_T108 HR1.out x11_2 p539 q539
                        obtain rfl : ad521 = ad539 := (by injection e539)
                        replace hx539_0 := (HB.out.cell (World.block_lt_of_cell? w _ hx539_0)).trans hx539_0
                        replace hx539_1 := (HB.out.cell (World.block_lt_of_cell? w _ hx539_1)).trans hx539_1
                        replace hx539_2 := (HB.out.cell (World.block_lt_of_cell? w _ hx539_2)).trans hx539_2
                        replace p539 := eq_true p539
                        replace q539 := eq_true q539
                        have p47 : 0 ≤ (((rd_T108 l1 x11_2).f1) : Int) := of_decide_eq_true (by first | (with_reducible assumption) | assumption)
                        have q47 : (((rd_T108 l1 x11_2).f1) : Int) < ((x9_2.length : Int) : Int) := of_decide_eq_true (by first | (with_reducible assumption) | assumption)
                        obtain ⟨hx47_0, hf47_0⟩ := Kd.R_celln false HO_9.out (((rd_T108 l1 x11_2).f1) : Int) p47 q47
                        replace p47 := eq_true p47
                        replace q47 := eq_true q47
                        have HP48 := Kd.R_putg HO_9.out (((rd_T108 l1 x11_2).f1) : Int) true
                        go_wp2_with (first | ((with_reducible refine gate_store (t := 4) (p := 93) rfl ?_); refine store_event (t := 4) (p := 93) (v := ?vo_w49) (w1 := (wc.setCell ⟨go10, (((rd_T108 l1 x11_2).f1) : Int).toNat, none⟩ (.bool true))) ?hg ?ho ?hn ?hr ?_; (case ho => rfl); (case hg => rfl); (case hn => rfl); (case hr => first | (go_simp; done) | (go_simp; rfl)); intro w49 hw; have hg : wc.grownBy w49 (some go10) := (by rw [hw]; exact HP48.2); have hp_ : Kd.R Kd.bool 4 w49 w.heap.size (fun _ => True) (.slice (some ⟨go10, 0, none⟩) x9_2.length co10) y540 := (by rw [hw, Ny540.out]; exact HP48.1); clear HP48; have n0_ := Aside0.mk (hp_); have n1_ := Aside0.mk ((by rw [hw]; exact below_set (HB.out) GB10.out : Below w.heap.size w w49)); clear HO_9; clear HB; have HO_9 := n0_; have HB := n1_; clear n0_ n1_; clear hg hw hp_))
                        (try simp only [← hl9_2])
                        go_roundg kj17
                        case measure => have := HK1.out; have := HK2.out; have := HJ17.out; omega
                        case rel => exact ⟨(y540), (true), (wrap64 (x11_2 + 1)), (by first | rfl | (simp; done) | (simp [*]; done)), (by first | rfl | (simp; done) | (simp [*]; done)), H', ⟨by have := HK1.out; have := HK2.out; have := HJ17.out; omega⟩, ⟨by (try simp only [hl9_1]); (try simp only [hl9_2]); (with_reducible repeat (first | apply Kd.R_alloc | apply Kd.R_drewN | apply Kd.R_drew)); exact HO_9.out⟩, ⟨by repeat (first | (with_reducible first | exact HB.out | apply below_alloc | apply pw_below_drewN | apply below_drew1) | exact HB.out)⟩⟩
                       ·rw [if_neg c46] at H
                        have c46b0 : ((wrap64 (x12_17 + ((rd_T108 l1 x11_2).f2))) == 0) = false := beq_eq_false_iff_ne.mpr c46
                        have c46b1 : ((wrap64 (x12_17 + ((rd_T108 l1 x11_2).f2))) != 0) = true := bne_iff_ne.mpr c46
                        have H' := Aside0.mk H
                        clear H
                        have p524 : 0 ≤ (x11_2 : Int) := of_decide_eq_true (by first | (with_reducible assumption) | assumption)
                        have q524 : x11_2 < (l1.length : Int) := of_decide_eq_true (by first | (with_reducible assumption) | assumption)
                        obtain ⟨ad524, e524, hx524_0, hx524_1, hx524_2⟩ := at_T108 HR1.out x11_2 p524 q524
                        obtain rfl : ad521 = ad524 := (by injection e524)
                        replace hx524_0 := (HB.out.cell (World.block_lt_of_cell? w _ hx524_0)).trans hx524_0
                        replace hx524_1 := (HB.out.cell (World.block_lt_of_cell? w _ hx524_1)).trans hx524_1
                        replace hx524_2 := (HB.out.cell (World.block_lt_of_cell? w _ hx524_2)).trans hx524_2
                        replace p524 := eq_true p524
                        replace q524 := eq_true q524
                        have p534 : 0 ≤ (x11_2 : Int) := of_decide_eq_true (by first | (with_reducible assumption) | assumption)
                        have q534 : x11_2 < (l1.length : Int) := of_decide_eq_true (by first | (with_reducible assumption) | assumption)
                        obtain ⟨ad534, e534, hx534_0, hx534_1, hx534_2⟩ := at_T108 HR1.out x11_2 p534 q534
                        obtain rfl : ad521 = ad534 := (by injection e534)
                        replace hx534_0 := (HB.out.cell (World.block_lt_of_cell? w _ hx534_0)).trans hx534_0
                        replace hx534_1 := (HB.out.cell (World.block_lt_of_cell? w _ hx534_1)).trans hx534_1
                        replace hx534_2 := (HB.out.cell (World.block_lt_of_cell? w _ hx534_2)).trans hx534_2
                        replace p534 := eq_true p534
                        replace q534 := eq_true q534
                        have p535 : 0 ≤ (((rd_T108 l1 x11_2).f0) : Int) := of_decide_eq_true (by first | (with_reducible assumption) | assumption)
                        have q535 : ((rd_T108 l1 x11_2).f0) < (x9_2.length : Int) := of_decide_eq_true (by first | (with_reducible assumption) | assumption)
                        obtain ⟨ad535, e535, hx535_0⟩ := Kd.at_bool (Kd.R_reads' HO_9.out).2.2 ((rd_T108 l1 x11_2).f0) p535 q535
                        (try rw [← Nbq40.out] at hx535_0)
                        (try rw [← Nbq44.out] at hx535_0)
                        obtain rfl : (⟨go10, 0, none⟩ : Addr) = ad535 := (by injection e535)
                        (first | simp only [add_plain] at hx535_0 | simp only [add_at] at hx535_0 | simp only [Addr.add, Nat.zero_add] at hx535_0 | skip)
                        replace p535 := eq_true p535
                        replace q535 := eq_true q535
                        have p536 : 0 ≤ (x11_2 : Int) := of_decide_eq_true (by first | (with_reducible assumption) | assumption)
                        have q536 : x11_2 < (l1.length : Int) := of_decide_eq_true (by first | (with_reducible assumption) | assumption)
                        obtain ⟨ad536, e536, hx536_0, hx536_1, hx536_2⟩ := at_T108 HR1.out x11_2 p536 q536
                        obtain rfl : ad521 = ad536 := (by injection e536)
                        replace hx536_0 := (HB.out.cell (World.block_lt_of_cell? w _ hx536_0)).trans hx536_0
                        replace hx536_1 := (HB.out.cell (World.block_lt_of_cell? w _ hx536_1)).trans hx536_1
                        replace hx536_2 := (HB.out.cell (World.block_lt_of_cell? w _ hx536_2)).trans hx536_2
                        replace p536 := eq_true p536
                        replace q536 := eq_true q536
                        have p537 : 0 ≤ (((rd_T108 l1 x11_2).f1) : Int) := of_decide_eq_true (by first | (with_reducible assumption) | assumption)
                        have q537 : ((rd_T108 l1 x11_2).f1) < (x9_2.length : Int) := of_decide_eq_true (by first | (with_reducible assumption) | assumption)
                        obtain ⟨ad537, e537, hx537_0⟩ := Kd.at_bool (Kd.R_reads' HO_9.out).2.2 ((rd_T108 l1 x11_2).f1) p537 q537
                        (try rw [← Nbq40.out] at hx537_0)
                        (try rw [← Nbq44.out] at hx537_0)
                        obtain rfl : (⟨go10, 0, none⟩ : Addr) = ad537 := (by injection e537)
                        (first | simp only [add_plain] at hx537_0 | simp only [add_at] at hx537_0 | simp only [Addr.add, Nat.zero_add] at hx537_0 | skip)
                        replace p537 := eq_true p537
                        replace q537 := eq_true q537
                        have p538 : 0 ≤ (x11_2 : Int) := of_decide_eq_true (by first | (with_reducible assumption) | assumption)
                        have q538 : x11_2 < (l1.length : Int) := of_decide_eq_true (by first | (with_reducible assumption) | assumption)
                        obtain ⟨ad538, e538, hx538_0, hx538_1, hx538_2⟩ := at_T108 HR1.out x11_2 p538 q538
                        obtain rfl : ad521 = ad538 := (by injection e538)
                        replace hx538_0 := (HB.out.cell (World.block_lt_of_cell? w _ hx538_0)).trans hx538_0
                        replace hx538_1 := (HB.out.cell (World.block_lt_of_cell? w _ hx538_1)).trans hx538_1
                        replace hx538_2 := (HB.out.cell (World.block_lt_of_cell? w _ hx538_2)).trans hx538_2
                        replace p538 := eq_true p538
                        replace q538 := eq_true q538
                        go_wp2
                        (try simp only [← hl9_2])
                        go_roundg kj17
                        case measure => have := HK1.out; have := HK2.out; have := HJ17.out; omega
                        case rel => exact ⟨(x9_2), (x10_2), (wrap64 (x11_2 + 1)), (by first | rfl | (simp; done) | (simp [*]; done)), (by first | rfl | (simp; done) | (simp [*]; done)), H', ⟨by have := HK1.out; have := HK2.out; have := HJ17.out; omega⟩, ⟨by (try simp only [hl9_1]); (try simp only [hl9_2]); (with_reducible repeat (first | apply Kd.R_alloc | apply Kd.R_drewN | apply Kd.R_drew)); exact HO_9.out⟩, ⟨by repeat (first | (with_reducible first | exact HB.out | apply below_alloc | apply pw_below_drewN | apply below_drew1) | exact HB.out)⟩⟩
                     ·rw [if_neg c43] at H
                      exact absurd H (by simp)
                    ·rw [if_neg c42] at H
                     exact absurd H (by simp)
                   ·replace c41 := Bool.eq_false_iff.mpr c41
                    subst c41
                    have H1 : (tenetref02_reached.l1 kj17 a0 l1 l2 x9_2 x10_2 (wrap64 (x11_2 + 1))) = some r := by rw [if_neg (show ¬ (false = true) by decide)] at H; exact H
                    clear H
                    have H := H1
                    clear H1
                    have H' := Aside0.mk H
                    clear H
                    have p524 : 0 ≤ (x11_2 : Int) := of_decide_eq_true (by first | (with_reducible assumption) | assumption)
                    have q524 : x11_2 < (l1.length : Int) := of_decide_eq_true (by first | (with_reducible assumption) | assumption)
                    obtain ⟨ad524, e524, hx524_0, hx524_1, hx524_2⟩ := at_T108 HR1.out x11_2 p524 q524
                    obtain rfl : ad521 = ad524 := (by injection e524)
                    replace hx524_0 := (HB.out.cell (World.block_lt_of_cell? w _ hx524_0)).trans hx524_0
                    replace hx524_1 := (HB.out.cell (World.block_lt_of_cell? w _ hx524_1)).trans hx524_1
                    replace hx524_2 := (HB.out.cell (World.block_lt_of_cell? w _ hx524_2)).trans hx524_2
                    replace p524 := eq_true p524
                    replace q524 := eq_true q524
                    have p534 : 0 ≤ (x11_2 : Int) := of_decide_eq_true (by first | (with_reducible assumption) | assumption)
                    have q534 : x11_2 < (l1.length : Int) := of_decide_eq_true (by first | (with_reducible assumption) | assumption)
                    obtain ⟨ad534, e534, hx534_0, hx534_1, hx534_2⟩ := at_T108 HR1.out x11_2 p534 q534
                    obtain rfl : ad521 = ad534 := (by injection e534)
                    replace hx534_0 := (HB.out.cell (World.block_lt_of_cell? w _ hx534_0)).trans hx534_0
                    replace hx534_1 := (HB.out.cell (World.block_lt_of_cell? w _ hx534_1)).trans hx534_1
                    replace hx534_2 := (HB.out.cell (World.block_lt_of_cell? w _ hx534_2)).trans hx534_2
                    replace p534 := eq_true p534
                    replace q534 := eq_true q534
                    have p535 : 0 ≤ (((rd_T108 l1 x11_2).f0) : Int) := of_decide_eq_true (by first | (with_reducible assumption) | assumption)
                    have q535 : ((rd_T108 l1 x11_2).f0) < (x9_2.length : Int) := of_decide_eq_true (by first | (with_reducible assumption) | assumption)
                    obtain ⟨ad535, e535, hx535_0⟩ := Kd.at_bool (Kd.R_reads' HO_9.out).2.2 ((rd_T108 l1 x11_2).f0) p535 q535
                    (try rw [← Nbq40.out] at hx535_0)
                    obtain rfl : (⟨go10, 0, none⟩ : Addr) = ad535 := (by injection e535)
                    (first | simp only [add_plain] at hx535_0 | simp only [add_at] at hx535_0 | simp only [Addr.add, Nat.zero_add] at hx535_0 | skip)
                    replace p535 := eq_true p535
                    replace q535 := eq_true q535
                    go_wp2
                    (try simp only [← hl9_2])
                    go_roundg kj17
                    case measure => have := HK1.out; have := HK2.out; have := HJ17.out; omega
                    case rel => exact ⟨(x9_2), (x10_2), (wrap64 (x11_2 + 1)), (by first | rfl | (simp; done) | (simp [*]; done)), (by first | rfl | (simp; done) | (simp [*]; done)), H', ⟨by have := HK1.out; have := HK2.out; have := HJ17.out; omega⟩, ⟨by (try simp only [hl9_1]); (try simp only [hl9_2]); (with_reducible repeat (first | apply Kd.R_alloc | apply Kd.R_drewN | apply Kd.R_drew)); exact HO_9.out⟩, ⟨by repeat (first | (with_reducible first | exact HB.out | apply below_alloc | apply pw_below_drewN | apply below_drew1) | exact HB.out)⟩⟩
                  ·rw [if_neg c39] at H
                   exact absurd H (by simp)
                 ·rw [if_neg c38] at H
                  exact absurd H (by simp)
               ·rw [if_neg c23] at H
                exact absurd H (by simp)
              ·rw [if_neg c22] at H
               exact absurd H (by simp)
           ·rw [if_neg c17] at H
            exact absurd H (by simp)
          ·rw [if_neg c16] at H
           have c16b0 : decide (x11_2 < (l1.length : Int)) = false := decide_eq_false c16
           clear c16
           have H' := Aside0.mk H
           clear H
           go_wp2
           (try simp only [← hl9_1, ← hl9_2])
           go_roundg k2
           case measure => have := HK1.out; have := HK2.out; omega
           case rel => exact ⟨(x9_2), (x10_2), (by first | rfl | (simp; done) | (simp [*]; done)), H', ⟨by have := HK1.out; have := HK2.out; omega⟩, ⟨by (try simp only [hl9_1]); (try simp only [hl9_2]); (with_reducible repeat (first | apply Kd.R_alloc | apply Kd.R_drewN | apply Kd.R_drew)); exact HO_9.out⟩, ⟨by repeat (first | (with_reducible first | exact HB.out | apply below_alloc | apply pw_below_drewN | apply below_drew1) | exact HB.out)⟩⟩
       ·replace c15 := Bool.eq_false_iff.mpr c15
        subst c15
        have H1 : (some x9_1) = some r := by rw [if_neg (show ¬ (false = true) by decide)] at H; exact H
        clear H
        have H := H1
        clear H1
        obtain rfl := Option.some.inj H
        go_wp2
        go_ret
        exact ⟨_, by first | rfl | (simp [errW_none, errW_some] <;> rfl) | (simp only [← hji5]; first | rfl | (simp [errW_none, errW_some] <;> rfl)) | (simp [*, errW_none, errW_some] <;> rfl), by (with_reducible repeat (first | apply Kd.R_alloc | apply Kd.R_drewN | apply Kd.R_drew)); exact HO_9.out, by repeat (first | (with_reducible first | exact HB.out | apply below_alloc | apply pw_below_drewN | apply below_drew1) | exact HB.out)⟩
    ·rw [if_neg c9] at H
     exact absurd H (by simp)
   ·rw [if_neg c8] at H
    exact absurd H (by simp)
  ·rw [if_neg c7] at H
   exact absurd H (by simp)
 ·rw [if_neg c6] at H
  exact absurd H (by simp)
end Go.Proofs.Ytegejpcglabhbaa.G
