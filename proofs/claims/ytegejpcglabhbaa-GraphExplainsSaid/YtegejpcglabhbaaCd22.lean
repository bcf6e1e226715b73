/- A part of this claim's proof: texts of its author, and printed ones, packed by a program of its author's. -/
import Derived.Test.YtegejpcglabhbaaCd2
import Derived.Test.YtegejpcglabhbaaCd16
import Derived.Test.YtegejpcglabhbaaCd12
import Derived.Test.YtegejpcglabhbaaCd14
import Derived.Test.YtegejpcglabhbaaCd21
namespace Go.Proofs.Ytegejpcglabhbaa.G
open Go.RowKit Go.Proofs.YtegejpcglabhbaaW.PrintWords Go.Proofs.YtegejpcglabhbaaW.PrintLast Go.Proofs.YtegejpcglabhbaaW.PrintMore
attribute [local go_sem] max2_int min2_int max_two min_two max_three min_three max_four min_four
set_option linter.unusedVariables false
set_option linter.unusedSimpArgs false
def tenetref02_without.l0 : Nat → List (S44) → Int → List (S44) → Int → Option ((List (S44)))
 | 0, _, _, _, _ => none
 | k + 1, x0, x1, x5, x6 => if x6 < (x0.length : Int) then (if x6 = x1 then (tenetref02_without.l0 k x0 x1 x5 (wrap64 (x6 + 1))) else (if 0 ≤ x6 then (if x5.length < 2199023255552 then (tenetref02_without.l0 k x0 x1 (x5 ++ [(⟨(⟨(rd_T44 x0 x6).f0.f0, (rd_T44 x0 x6).f0.f1⟩ : S41), (⟨(rd_T44 x0 x6).f1.f0, (rd_T44 x0 x6).f1.f1⟩ : S41)⟩ : S44)]) (wrap64 (x6 + 1))) else (none)) else (none))) else (some x5)
def tenetref02_without.f (k : Nat) (l0 : List (S44)) (a1 : Int) : Option ((List (S44))) := tenetref02_without.l0 k l0 a1 ([] : List (S44)) 0
theorem tenetref02_without.mono_l : ∀ k, (∀ y0 y1 y2 y3, LeO (tenetref02_without.l0 k y0 y1 y2 y3) (tenetref02_without.l0 (k + 1) y0 y1 y2 y3))
 | 0 => fun _ _ _ _ r h => by simp [tenetref02_without.l0] at h
 | k + 1 => by
  have ih0 := tenetref02_without.mono_l k
  ·intro y0 y1 y2 y3
   unfold tenetref02_without.l0
   repeat' first
   | (with_reducible exact ih0 _ _ _ _)
   | (with_reducible exact LeO.refl _)
   | (with_reducible exact LeO.none _)
   | (with_reducible refine LeO.ite ?_ ?_)
   | (with_reducible refine LeO.bind ?_ (fun _ => ?_))
   | exact ih0 _ _ _ _
   | exact LeO.none _
   | refine LeO.ite ?_ ?_
   | refine LeO.bind ?_ (fun _ => ?_)
theorem tenetref02_without.mono : ∀ a0 a1 k, LeO (tenetref02_without.f k a0 a1) (tenetref02_without.f (k + 1) a0 a1) := by
 intro a0 a1 k
 have ih0 := tenetref02_without.mono_l k
 unfold tenetref02_without.f
 repeat' first
   | (with_reducible exact ih0 _ _ _ _)
   | (with_reducible exact LeO.refl _)
   | (with_reducible exact LeO.none _)
   | (with_reducible refine LeO.ite ?_ ?_)
   | (with_reducible refine LeO.bind ?_ (fun _ => ?_))
   | exact ih0 _ _ _ _
   | exact LeO.none _
   | refine LeO.ite ?_ ?_
   | refine LeO.bind ?_ (fun _ => ?_)
set_option maxHeartbeats 8000000 in
set_option maxRecDepth 100000 in
theorem tenetref02_without.calls (k : Nat) (P0_ : Nat → Prop) (A0 : Option Addr) (c0 : Nat) (l0 : List (S44)) (a1 : Int) (r : List (S44)) (w : World) (hs0 : Kd.V k44 44 w w.heap.size (fun k_ => P0_ k_) (.slice A0 l0.length c0) l0) (h : tenetref02_without.f k l0 a1 = some r) :
  Calls Try.prog 83 #[.slice A0 l0.length c0, .int .i64 a1] w fun e w' => ∃ v0_ : Value, e = .returned (v0_) ∧ Kd.N k44 44 w' w.heap.size (fun k_ => (P0_ k_ ∨ w.heap.size ≤ k_)) v0_ r ∧ Below w.heap.size w w' := by
 have hu44 := Try.underlying44
 have HO0 := Aside0.mk (show Kd.V k44 44 w w.heap.size (fun k_ => (P0_ k_ ∨ w.heap.size ≤ k_)) (.slice A0 l0.length c0) l0 from Kd.V_mono hs0 (fun k_ hk => .inl hk))
 have HB := Aside0.mk (Below.refl w.heap.size w)
 have H : (tenetref02_without.l0 k l0 a1 ([] : List (S44)) 0) = some r := h
 clear h
 have H' := Aside0.mk H
 clear H
 go_enter Try.func83, Try.ntmps83
 go_wp2
 go_loopg [5, 6] k (fun kq v5 v6 w' => ∃ (x5_1 : List (S44)) (x6_1 : Int), v6 = .int .i64 x6_1 ∧ Aside0 (tenetref02_without.l0 kq l0 a1 x5_1 x6_1 = some r) ∧ Aside0 (kq ≤ k) ∧ Aside0 (Kd.V k44 44 w' w.heap.size (fun k_ => (P0_ k_ ∨ w.heap.size ≤ k_) ∧ some k_ ≠ (v5 : Value).ownBlock) (.slice A0 l0.length c0) l0) ∧ Aside0 (Kd.N k44 44 w' w.heap.size (fun k_ => (P0_ k_ ∨ w.heap.size ≤ k_)) v5 x5_1) ∧ Aside0 (Below w.heap.size w w'))
 case atStart => exact ⟨(([] : List (S44))), (0), (by first | rfl | (simp; done) | (simp [*]; done)), H', ⟨Nat.le_refl _⟩, ⟨by (with_reducible repeat (first | apply Kd.V_alloc | apply Kd.V_drewN | apply Kd.V_drew)); exact Kd.V_mono HO0.out (fun _ hk => ⟨hk, (by simp [Value.ownBlock])⟩)⟩, ⟨by first | exact Kd.S_nil _ _ _ _ _ | exact Kd.N_nil _ _ _ _ _ | exact Kd.V_nil _ _ _ _ _ | exact Kd.Q_nil _ _ _ _ _ | exact Kd.R_nil _ _ _ _ _⟩, ⟨by repeat (first | (with_reducible first | exact HB.out | apply below_alloc | apply pw_below_drewN | apply below_drew1) | exact HB.out)⟩⟩
 case round =>
  clear H'
  try clear p2
  obtain ⟨x5_1, x6_1, rfl, HA, HK1, HO_0, HO_5, HB⟩ := hrel
  cases gk with
  | zero => exact absurd HA.out (by simp [tenetref02_without.l0])
  | succ k1 =>
   have H := HA.out
   clear HA
   simp only [tenetref02_without.l0] at H
   by_cases c3 : x6_1 < (l0.length : Int)
   ·rw [if_pos c3] at H
    have c3b0 : decide (x6_1 < (l0.length : Int)) = true := decide_eq_true c3
    clear c3
    by_cases c4 : x6_1 = a1
    ·rw [if_pos c4] at H
     have c4b0 : (x6_1 == a1) = true := beq_iff_eq.mpr c4
     have c4b1 : (x6_1 != a1) = false := bne_eq_false_iff_eq.mpr c4
     clear c4
     have H' := Aside0.mk H
     clear H
     go_wp2
     go_roundg k1
     case measure => have := HK1.out; omega
     case rel => exact ⟨(x5_1), (wrap64 (x6_1 + 1)), (by first | rfl | (simp; done) | (simp [*]; done)), H', ⟨by have := HK1.out; omega⟩, ⟨by (with_reducible repeat (first | apply Kd.V_alloc | apply Kd.V_drewN | apply Kd.V_drew)); exact HO_0.out⟩, ⟨by (with_reducible repeat (first | apply Kd.N_alloc | apply Kd.N_drewN | apply Kd.N_drew)); exact HO_5.out⟩, ⟨by repeat (first | (with_reducible first | exact HB.out | apply below_alloc | apply pw_below_drewN | apply below_drew1) | exact HB.out)⟩⟩
    ·rw [if_neg c4] at H
     have c4b0 : (x6_1 == a1) = false := beq_eq_false_iff_ne.mpr c4
     have c4b1 : (x6_1 != a1) = true := bne_iff_ne.mpr c4
     by_cases c5 : 0 ≤ x6_1
     ·rw [if_pos c5] at H
      have c5b0 : decide (0 ≤ x6_1) = true := decide_eq_true c5
      clear c5
      by_cases c6 : x5_1.length < 2199023255552
      ·rw [if_pos c6] at H
       have LMc6 := Aside0.mk c6
       clear c6
       obtain ⟨y849, hy849⟩ : ∃ y_ : List (S44), y_ = (x5_1 ++ [(⟨(⟨(rd_T44 l0 x6_1).f0.f0, (rd_T44 l0 x6_1).f0.f1⟩ : S41), (⟨(rd_T44 l0 x6_1).f1.f0, (rd_T44 l0 x6_1).f1.f1⟩ : S41)⟩ : S44)]) := ⟨_, rfl⟩
       replace H : (tenetref02_without.l0 k1 l0 a1 y849 (wrap64 (x6_1 + 1))) = some r := by first | (rw [hy849]; with_reducible exact H) | (have H2_ := (Option.bind_some _ _).symm.trans H; rw [hy849]; with_reducible exact H2_) | (have H2_ := (Option.bind_some _ _).symm.trans H; with_reducible exact H2_) | with_reducible exact H | (rw [hy849]; exact H) | exact H
       have Ny849 := Aside0.mk hy849
       clear hy849
       have H' := Aside0.mk H
       clear H
       have p848 : 0 ≤ (x6_1 : Int) := of_decide_eq_true (by first | (with_reducible assumption) | assumption)
       have q848 : x6_1 < (l0.length : Int) := of_decide_eq_true (by first | (with_reducible assumption) | assumption)
       obtain ⟨ad848, A848_1, c848_1, A848_3, c848_3, e848, hx848_0, hx848_1, hx848_2, hx848_3, hl848_1, hi848_1, hl848_3, hi848_3⟩ := at_T44 (Kd.V_reads' HO_0.out).2.2 x6_1 p848 q848
       cases e848
       obtain ⟨ce848, hce848, hMe848, hcc848⟩ := Kd.V_get HO_0.out z44 x6_1 p848 (by first | exact q848 | exact of_decide_eq_true (by first | (with_reducible assumption) | assumption) | (have e_ := (Kd.V_reads' HO_0.out).1; omega))
       obtain ⟨ua848_1, uc848_1, ua848_3, uc848_3, rfl, ul848_1, ge848_1, ul848_3, ge848_3⟩ := k44_openF hMe848
       have hv848_1 := hcc848 1 _ rfl
       rw [add_field _ _ 1 (by omega)] at hv848_1
       replace hv848_1 := Option.some.inj (hv848_1.symm.trans hx848_1)
       injection hv848_1 with hva_ hvn_ hvc_
       rw [hva_] at ge848_1
       rw [hvc_] at ul848_1
       have HL848_1 := Aside0.mk (show Kd.V k96 96 _ w.heap.size _ _ ((rd_T44 l0 x6_1).f0.f1) from Kd.V_mk ul848_1 ge848_1)
       clear hva_ hvn_ hvc_ ge848_1 ul848_1
       have hv848_3 := hcc848 3 _ rfl
       rw [add_field _ _ 3 (by omega)] at hv848_3
       replace hv848_3 := Option.some.inj (hv848_3.symm.trans hx848_3)
       injection hv848_3 with hva_ hvn_ hvc_
       rw [hva_] at ge848_3
       rw [hvc_] at ul848_3
       have HL848_3 := Aside0.mk (show Kd.V k96 96 _ w.heap.size _ _ ((rd_T44 l0 x6_1).f1.f1) from Kd.V_mk ul848_3 ge848_3)
       clear hva_ hvn_ hvc_ ge848_3 ul848_3
       clear hcc848 hce848
       have HR848_1 := Aside0.mk hi848_1
       have HC848_1 := Aside0.mk hl848_1
       clear hi848_1 hl848_1
       have HR848_3 := Aside0.mk hi848_3
       have HC848_3 := Aside0.mk hl848_3
       clear hi848_3 hl848_3
       replace p848 := eq_true p848
       replace q848 := eq_true q848
       go_wp2_with (first | ((with_reducible refine gate_builtin (b := .append) (xs := #[.tmp 16, .tmp 21]) rfl ?_); at_builtin; refine Kd.N_append k44 (w0 := w) w.heap.size rfl (.tmp 16) (.tmp 21) 22 44 (.agg #[(.int .i64 0), (.slice none 0 0), (.int .i64 0), (.slice none 0 0)]) 64 rfl Try.underlying22 info44 rfl (by decide) (by omega) u5 x5_1 (⟨(⟨(rd_T44 l0 x6_1).f0.f0, (rd_T44 l0 x6_1).f0.f1⟩ : S41), (⟨(rd_T44 l0 x6_1).f1.f0, (rd_T44 l0 x6_1).f1.f1⟩ : S41)⟩ : S44) [.int .i64 ((rd_T44 l0 x6_1).f0.f0), .slice A848_1 ((rd_T44 l0 x6_1).f0.f1).length c848_1, .int .i64 ((rd_T44 l0 x6_1).f1.f0), .slice A848_3 ((rd_T44 l0 x6_1).f1.f1).length c848_3] (fun k_ => (P0_ k_ ∨ w.heap.size ≤ k_)) (fun k_ => ((fun k_ => (P0_ k_ ∨ w.heap.size ≤ k_))) k_ ∧ some k_ ≠ (u5 : Value).ownBlock) rfl rfl ?aP (fun _ hk => hk) ?aF ?aO ?aB ?aS ?aL ?_; (case aP => exact (k44_mkF _ _ (⟨(⟨(rd_T44 l0 x6_1).f0.f0, (rd_T44 l0 x6_1).f0.f1⟩ : S41), (⟨(rd_T44 l0 x6_1).f1.f0, (rd_T44 l0 x6_1).f1.f1⟩ : S41)⟩ : S44) (Kd.V_reads' (Kd.V_mono (ok' := (fun k_ => ((fun k_ => (P0_ k_ ∨ w.heap.size ≤ k_))) k_ ∧ some k_ ≠ (u5 : Value).ownBlock)) (HL848_1.out) (fun k_ hk => ⟨hk.1, hk.2⟩))).2.1 (Kd.V_F (Kd.V_mono (ok' := (fun k_ => ((fun k_ => (P0_ k_ ∨ w.heap.size ≤ k_))) k_ ∧ some k_ ≠ (u5 : Value).ownBlock)) (HL848_1.out) (fun k_ hk => ⟨hk.1, hk.2⟩))) (Kd.V_reads' (Kd.V_mono (ok' := (fun k_ => ((fun k_ => (P0_ k_ ∨ w.heap.size ≤ k_))) k_ ∧ some k_ ≠ (u5 : Value).ownBlock)) (HL848_3.out) (fun k_ hk => ⟨hk.1, hk.2⟩))).2.1 (Kd.V_F (Kd.V_mono (ok' := (fun k_ => ((fun k_ => (P0_ k_ ∨ w.heap.size ≤ k_))) k_ ∧ some k_ ≠ (u5 : Value).ownBlock)) (HL848_3.out) (fun k_ hk => ⟨hk.1, hk.2⟩))))); (case aB => exact (by repeat (first | (with_reducible first | exact HB.out | apply below_alloc | apply pw_below_drewN | apply below_drew1) | exact HB.out))); (case aF => exact (fun k_ hk => (.inr (Nat.le_trans (below_size (by repeat (first | (with_reducible first | exact HB.out | apply below_alloc | apply pw_below_drewN | apply below_drew1) | exact HB.out))) hk)))); (case aO => exact (by (with_reducible repeat (first | apply Kd.N_alloc | apply Kd.N_drewN | apply Kd.N_drew)); exact HO_5.out)); (case aS => exact (below_size (by repeat (first | (with_reducible first | exact HB.out | apply below_alloc | apply pw_below_drewN | apply below_drew1) | exact HB.out)))); (case aL => have := LMc6.out; omega); intro v850 w7 ho hb hg hat; rw [← Ny849.out] at ho; have n0_ := Aside0.mk (Kd.V_afterv (ok := (fun k_ => (P0_ k_ ∨ w.heap.size ≤ k_))) (by (with_reducible repeat (first | apply Kd.V_alloc | apply Kd.V_drewN | apply Kd.V_drew)); exact HO_0.out) hg hat); have n1_ := Aside0.mk (Kd.V_afterv (ok := (fun k_ => (P0_ k_ ∨ w.heap.size ≤ k_))) (by (with_reducible repeat (first | apply Kd.V_alloc | apply Kd.V_drewN | apply Kd.V_drew)); exact HL848_1.out) hg hat); have n2_ := Aside0.mk (Kd.V_afterv (ok := (fun k_ => (P0_ k_ ∨ w.heap.size ≤ k_))) (by (with_reducible repeat (first | apply Kd.V_alloc | apply Kd.V_drewN | apply Kd.V_drew)); exact HL848_3.out) hg hat); have n3_ := Aside0.mk (hb); have n4_ := Aside0.mk (ho); clear HO_0; clear HL848_1; clear HL848_3; clear HB; clear HO_5; have HO_0 := n0_; have HL848_1 := n1_; have HL848_3 := n2_; have HB := n3_; have HO851 := n4_; clear n0_ n1_ n2_ n3_ n4_; clear ho hb hg hat))
       go_roundg k1
       case measure => have := HK1.out; omega
       case rel => exact ⟨(y849), (wrap64 (x6_1 + 1)), (by first | rfl | (simp; done) | (simp [*]; done)), H', ⟨by have := HK1.out; omega⟩, ⟨by (with_reducible repeat (first | apply Kd.V_alloc | apply Kd.V_drewN | apply Kd.V_drew)); exact HO_0.out⟩, ⟨by (with_reducible repeat (first | apply Kd.N_alloc | apply Kd.N_drewN | apply Kd.N_drew)); exact HO851.out⟩, ⟨by repeat (first | (with_reducible first | exact HB.out | apply below_alloc | apply pw_below_drewN | apply below_drew1) | exact HB.out)⟩⟩
      ·rw [if_neg c6] at H
       exact absurd H (by simp)
     ·rw [if_neg c5] at H
      exact absurd H (by simp)
   ·rw [if_neg c3] at H
    have c3b0 : decide (x6_1 < (l0.length : Int)) = false := decide_eq_false c3
    clear c3
    obtain rfl := Option.some.inj H
    go_wp2
    go_ret
    exact ⟨_, by first | rfl | (simp [errW_none, errW_some] <;> rfl) | (simp [*, errW_none, errW_some] <;> rfl), by (with_reducible repeat (first | apply Kd.N_alloc | apply Kd.N_drewN | apply Kd.N_drew)); exact HO_5.out, by repeat (first | (with_reducible first | exact HB.out | apply below_alloc | apply pw_below_drewN | apply below_drew1) | exact HB.out)⟩
mutual
def tenetref02_Core.l0 : Nat → Int → List (S44) → List Int → List (S44) → Int → Option (Bool)
 | 0, _, _, _, _, _ => none
 | k + 1, x0, x1, x2, x7, x8 => if x8 < (x2.length : Int) then (if 0 ≤ x8 then (if (rd x2 x8) < 0 then (some false) else (if (rd x2 x8) ≥ (x1.length : Int) then (some false) else (if x8 > 0 then (if 0 ≤ (wrap64 (x8 - 1)) then (if (wrap64 (x8 - 1)) < (x2.length : Int) then (if (rd x2 x8) ≤ (rd x2 (wrap64 (x8 - 1))) then (some false) else (if 0 ≤ (rd x2 x8) then (if (rd x2 x8) < (x1.length : Int) then (if x7.length < 2199023255552 then (tenetref02_Core.l0 k x0 x1 x2 (x7 ++ [(⟨(⟨(rd_T44 x1 (rd x2 x8)).f0.f0, (rd_T44 x1 (rd x2 x8)).f0.f1⟩ : S41), (⟨(rd_T44 x1 (rd x2 x8)).f1.f0, (rd_T44 x1 (rd x2 x8)).f1.f1⟩ : S41)⟩ : S44)]) (wrap64 (x8 + 1))) else (none)) else (none)) else (none))) else (none)) else (none)) else (if 0 ≤ (rd x2 x8) then (if (rd x2 x8) < (x1.length : Int) then (if x7.length < 2199023255552 then (tenetref02_Core.l0 k x0 x1 x2 (x7 ++ [(⟨(⟨(rd_T44 x1 (rd x2 x8)).f0.f0, (rd_T44 x1 (rd x2 x8)).f0.f1⟩ : S41), (⟨(rd_T44 x1 (rd x2 x8)).f1.f0, (rd_T44 x1 (rd x2 x8)).f1.f1⟩ : S41)⟩ : S44)]) (wrap64 (x8 + 1))) else (none)) else (none)) else (none))))) else (none)) else ((tenetref02_solve.f k x0 x7).bind fun bt866 => (if bt866.2 = true then (some false) else (tenetref02_Core.l1 k x0 x7 0)))
def tenetref02_Core.l1 : Nat → Int → List (S44) → Int → Option (Bool)
 | 0, _, _, _ => none
 | k + 1, x0, x7, x11 => if x11 < (x7.length : Int) then ((tenetref02_without.f k x7 x11).bind fun t870 => ((tenetref02_solve.f k x0 t870).bind fun bt873 => (if bt873.2 = true then (tenetref02_Core.l1 k x0 x7 (wrap64 (x11 + 1))) else (some false)))) else (some true)
end
def tenetref02_Core.f (k : Nat) (a0 : Int) (l1 : List (S44)) (l2 : List Int) : Option (Bool) := tenetref02_Core.l0 k a0 l1 l2 ([] : List (S44)) 0
theorem tenetref02_Core.mono_l : ∀ k, (∀ y0 y1 y2 y3 y4, LeO (tenetref02_Core.l0 k y0 y1 y2 y3 y4) (tenetref02_Core.l0 (k + 1) y0 y1 y2 y3 y4)) ∧ (∀ y0 y1 y2, LeO (tenetref02_Core.l1 k y0 y1 y2) (tenetref02_Core.l1 (k + 1) y0 y1 y2))
 | 0 => ⟨fun _ _ _ _ _ r h => by simp [tenetref02_Core.l0] at h, fun _ _ _ r h => by simp [tenetref02_Core.l1] at h⟩
 | k + 1 => by
  obtain ⟨ih0, ih1⟩ := tenetref02_Core.mono_l k
  refine ⟨?_, ?_⟩
  ·intro y0 y1 y2 y3 y4
   unfold tenetref02_Core.l0
   repeat' first
   | (with_reducible exact ih0 _ _ _ _ _)
   | (with_reducible exact ih1 _ _ _)
   | (with_reducible exact tenetref02_solve.mono _ _ _)
   | (with_reducible exact tenetref02_without.mono _ _ _)
   | (with_reducible exact LeO.refl _)
   | (with_reducible exact LeO.none _)
   | (with_reducible refine LeO.ite ?_ ?_)
   | (with_reducible refine LeO.bind ?_ (fun _ => ?_))
   | exact ih0 _ _ _ _ _
   | exact ih1 _ _ _
   | exact tenetref02_solve.mono _ _ _
   | exact tenetref02_without.mono _ _ _
   | exact LeO.none _
   | refine LeO.ite ?_ ?_
   | refine LeO.bind ?_ (fun _ => ?_)
  ·intro y0 y1 y2
   unfold tenetref02_Core.l1
   repeat' first
   | (with_reducible exact ih0 _ _ _ _ _)
   | (with_reducible exact ih1 _ _ _)
   | (with_reducible exact tenetref02_solve.mono _ _ _)
   | (with_reducible exact tenetref02_without.mono _ _ _)
   | (with_reducible exact LeO.refl _)
   | (with_reducible exact LeO.none _)
   | (with_reducible refine LeO.ite ?_ ?_)
   | (with_reducible refine LeO.bind ?_ (fun _ => ?_))
   | exact ih0 _ _ _ _ _
   | exact ih1 _ _ _
   | exact tenetref02_solve.mono _ _ _
   | exact tenetref02_without.mono _ _ _
   | exact LeO.none _
   | refine LeO.ite ?_ ?_
   | refine LeO.bind ?_ (fun _ => ?_)
theorem tenetref02_Core.mono : ∀ a0 a1 a2 k, LeO (tenetref02_Core.f k a0 a1 a2) (tenetref02_Core.f (k + 1) a0 a1 a2) := by
 intro a0 a1 a2 k
 obtain ⟨ih0, ih1⟩ := tenetref02_Core.mono_l k
 unfold tenetref02_Core.f
 repeat' first
   | (with_reducible exact ih0 _ _ _ _ _)
   | (with_reducible exact ih1 _ _ _)
   | (with_reducible exact tenetref02_solve.mono _ _ _)
   | (with_reducible exact tenetref02_without.mono _ _ _)
   | (with_reducible exact LeO.refl _)
   | (with_reducible exact LeO.none _)
   | (with_reducible refine LeO.ite ?_ ?_)
   | (with_reducible refine LeO.bind ?_ (fun _ => ?_))
   | exact ih0 _ _ _ _ _
   | exact ih1 _ _ _
   | exact tenetref02_solve.mono _ _ _
   | exact tenetref02_without.mono _ _ _
   | exact LeO.none _
   | refine LeO.ite ?_ ?_
   | refine LeO.bind ?_ (fun _ => ?_)
set_option maxHeartbeats 8000000 in
set_option maxRecDepth 100000 in
theorem tenetref02_Core.calls (k : Nat) (a0 : Int) (P1_ : Nat → Prop) (A1 : Option Addr) (c1 : Nat) (l1 : List (S44)) (A2 : Option Addr) (c2 : Nat) (l2 : List Int) (r : Bool) (w : World) (hs1 : Kd.V k44 44 w w.heap.size (fun k_ => P1_ k_) (.slice A1 l1.length c1) l1) (hr2 : Kd.C (Kd.int .i64) w A2 l2.length l2) (hc2 : l2.length ≤ c2) (h : tenetref02_Core.f k a0 l1 l2 = some r) :
  Calls Try.prog 46 #[.int .i64 a0, .slice A1 l1.length c1, .slice A2 l2.length c2] w fun e w' => e = .returned (.bool r) ∧ Below w.heap.size w w' := by
 have hu44 := Try.underlying44
 have HO1 := Aside0.mk (show Kd.V k44 44 w w.heap.size (fun k_ => (P1_ k_ ∨ w.heap.size ≤ k_)) (.slice A1 l1.length c1) l1 from Kd.V_mono hs1 (fun k_ hk => .inl hk))
 have HR2 := Aside0.mk hr2
 have HC2 := Aside0.mk hc2
 clear hr2 hc2
 have HB := Aside0.mk (Below.refl w.heap.size w)
 have H : (tenetref02_Core.l0 k a0 l1 l2 ([] : List (S44)) 0) = some r := h
 clear h
 have H' := Aside0.mk H
 clear H
 go_enter Try.func46, Try.ntmps46
 go_wp2
 repeat (go_quiet (fail); try go_wp2)
 go_loopg [7, 8] k (fun kq v7 v8 w' => ∃ (x7_1 : List (S44)) (x8_1 : Int), v8 = .int .i64 x8_1 ∧ Aside0 (tenetref02_Core.l0 kq a0 l1 l2 x7_1 x8_1 = some r) ∧ Aside0 (kq ≤ k) ∧ Aside0 (Kd.V k44 44 w' w.heap.size (fun k_ => (P1_ k_ ∨ w.heap.size ≤ k_) ∧ some k_ ≠ (v7 : Value).ownBlock) (.slice A1 l1.length c1) l1) ∧ Aside0 (Kd.N k44 44 w' w.heap.size (fun k_ => (P1_ k_ ∨ w.heap.size ≤ k_)) v7 x7_1) ∧ Aside0 (Below w.heap.size w w'))
 case atStart => exact ⟨(([] : List (S44))), (0), (by first | rfl | (simp; done) | (simp [*]; done)), H', ⟨Nat.le_refl _⟩, ⟨by (with_reducible repeat (first | apply Kd.V_alloc | apply Kd.V_drewN | apply Kd.V_drew)); exact Kd.V_mono HO1.out (fun _ hk => ⟨hk, (by simp [Value.ownBlock])⟩)⟩, ⟨by first | exact Kd.S_nil _ _ _ _ _ | exact Kd.N_nil _ _ _ _ _ | exact Kd.V_nil _ _ _ _ _ | exact Kd.Q_nil _ _ _ _ _ | exact Kd.R_nil _ _ _ _ _⟩, ⟨by repeat (first | (with_reducible first | exact HB.out | apply below_alloc | apply pw_below_drewN | apply below_drew1) | exact HB.out)⟩⟩
 case round =>
  clear H'
  try clear c1
  try clear c2
  try clear p2
  obtain ⟨x7_1, x8_1, rfl, HA, HK1, HO_1, HO_7, HB⟩ := hrel
  cases gk with
  | zero => exact absurd HA.out (by simp [tenetref02_Core.l0])
  | succ k1 =>
   have H := HA.out
   clear HA
   simp only [tenetref02_Core.l0] at H
   by_cases c4 : x8_1 < (l2.length : Int)
   ·rw [if_pos c4] at H
    have c4b0 : decide (x8_1 < (l2.length : Int)) = true := decide_eq_true c4
    clear c4
    by_cases c5 : 0 ≤ x8_1
    ·rw [if_pos c5] at H
     have c5b0 : decide (0 ≤ x8_1) = true := decide_eq_true c5
     clear c5
     by_cases c6 : (rd l2 x8_1) < 0
     ·rw [if_pos c6] at H
      have c6b0 : decide ((rd l2 x8_1) < 0) = true := decide_eq_true c6
      clear c6
      obtain rfl := Option.some.inj H
      have p852 : 0 ≤ (x8_1 : Int) := of_decide_eq_true (by first | (with_reducible assumption) | assumption)
      have q852 : x8_1 < (l2.length : Int) := of_decide_eq_true (by first | (with_reducible assumption) | assumption)
      obtain ⟨ad852, e852, hx852_0⟩ := Kd.at_int HR2.out x8_1 p852 q852
      cases e852
      replace hx852_0 := (HB.out.cell (World.block_lt_of_cell? w _ hx852_0)).trans hx852_0
      replace p852 := eq_true p852
      replace q852 := eq_true q852
      go_wp2
      repeat (go_quiet (fail); try go_wp2)
      go_ret
      exact ⟨by first | rfl | (simp [errW_none, errW_some] <;> rfl) | (simp [*, errW_none, errW_some] <;> rfl), by repeat (first | (with_reducible first | exact HB.out | apply below_alloc | apply pw_below_drewN | apply below_drew1) | exact HB.out)⟩
     ·rw [if_neg c6] at H
      have c6b0 : decide ((rd l2 x8_1) < 0) = false := decide_eq_false c6
      clear c6
      by_cases c7 : (rd l2 x8_1) ≥ (l1.length : Int)
      ·rw [if_pos c7] at H
       have c7b0 : decide ((l1.length : Int) ≤ (rd l2 x8_1)) = true := decide_eq_true c7
       clear c7
       obtain rfl := Option.some.inj H
       have p852 : 0 ≤ (x8_1 : Int) := of_decide_eq_true (by first | (with_reducible assumption) | assumption)
       have q852 : x8_1 < (l2.length : Int) := of_decide_eq_true (by first | (with_reducible assumption) | assumption)
       obtain ⟨ad852, e852, hx852_0⟩ := Kd.at_int HR2.out x8_1 p852 q852
       cases e852
       replace hx852_0 := (HB.out.cell (World.block_lt_of_cell? w _ hx852_0)).trans hx852_0
       replace p852 := eq_true p852
       replace q852 := eq_true q852
       have p853 : 0 ≤ (x8_1 : Int) := of_decide_eq_true (by first | (with_reducible assumption) | assumption)
       have q853 : x8_1 < (l2.length : Int) := of_decide_eq_true (by first | (with_reducible assumption) | assumption)
       obtain ⟨ad853, e853, hx853_0⟩ := Kd.at_int HR2.out x8_1 p853 q853
       obtain rfl : ad852 = ad853 := (by injection e853)
       replace hx853_0 := (HB.out.cell (World.block_lt_of_cell? w _ hx853_0)).trans hx853_0
       replace p853 := eq_true p853
       replace q853 := eq_true q853
       go_wp2
       repeat (go_quiet (fail); try go_wp2)
       go_ret
       exact ⟨by first | rfl | (simp [errW_none, errW_some] <;> rfl) | (simp [*, errW_none, errW_some] <;> rfl), by repeat (first | (with_reducible first | exact HB.out | apply below_alloc | apply pw_below_drewN | apply below_drew1) | exact HB.out)⟩
      ·rw [if_neg c7] at H
       have c7b0 : decide ((l1.length : Int) ≤ (rd l2 x8_1)) = false := decide_eq_false c7
       clear c7
       by_cases c8 : x8_1 > 0
       ·rw [if_pos c8] at H
        have c8b0 : decide (0 < x8_1) = true := decide_eq_true c8
        clear c8
        obtain ⟨ji9, hji9⟩ : ∃ j_ : Int, (wrap64 (x8_1 - 1)) = j_ := ⟨_, rfl⟩
        replace H : (if 0 ≤ (ji9) then (if (ji9) < (l2.length : Int) then (if (rd l2 x8_1) ≤ (rd l2 (ji9)) then (some false) else (if 0 ≤ (rd l2 x8_1) then (if (rd l2 x8_1) < (l1.length : Int) then (if x7_1.length < 2199023255552 then (tenetref02_Core.l0 k1 a0 l1 l2 (x7_1 ++ [(⟨(⟨(rd_T44 l1 (rd l2 x8_1)).f0.f0, (rd_T44 l1 (rd l2 x8_1)).f0.f1⟩ : S41), (⟨(rd_T44 l1 (rd l2 x8_1)).f1.f0, (rd_T44 l1 (rd l2 x8_1)).f1.f1⟩ : S41)⟩ : S44)]) (wrap64 (x8_1 + 1))) else (none)) else (none)) else (none))) else (none)) else (none)) = some r := by first | (rw [hji9] at H; exact H) | (simp only [hji9] at H ⊢; exact H)
        have hji9w : (IntKind.i64.wrap (x8_1 - 1)) = ji9 := (i64_w _).trans hji9
        by_cases c10 : 0 ≤ (ji9)
        ·rw [if_pos c10] at H
         have c10b0 : decide (0 ≤ (ji9)) = true := decide_eq_true c10
         clear c10
         by_cases c11 : (ji9) < (l2.length : Int)
         ·rw [if_pos c11] at H
          have c11b0 : decide ((ji9) < (l2.length : Int)) = true := decide_eq_true c11
          clear c11
          by_cases c12 : (rd l2 x8_1) ≤ (rd l2 (ji9))
          ·rw [if_pos c12] at H
           have c12b0 : decide ((rd l2 x8_1) ≤ (rd l2 (ji9))) = true := decide_eq_true c12
           clear c12
           obtain rfl := Option.some.inj H
           have p852 : 0 ≤ (x8_1 : Int) := of_decide_eq_true (by first | (with_reducible assumption) | assumption)
           have q852 : x8_1 < (l2.length : Int) := of_decide_eq_true (by first | (with_reducible assumption) | assumption)
           obtain ⟨ad852, e852, hx852_0⟩ := Kd.at_int HR2.out x8_1 p852 q852
           cases e852
           replace hx852_0 := (HB.out.cell (World.block_lt_of_cell? w _ hx852_0)).trans hx852_0
           replace p852 := eq_true p852
           replace q852 := eq_true q852
           have p853 : 0 ≤ (x8_1 : Int) := of_decide_eq_true (by first | (with_reducible assumption) | assumption)
           have q853 : x8_1 < (l2.length : Int) := of_decide_eq_true (by first | (with_reducible assumption) | assumption)
           obtain ⟨ad853, e853, hx853_0⟩ := Kd.at_int HR2.out x8_1 p853 q853
           obtain rfl : ad852 = ad853 := (by injection e853)
           replace hx853_0 := (HB.out.cell (World.block_lt_of_cell? w _ hx853_0)).trans hx853_0
           replace p853 := eq_true p853
           replace q853 := eq_true q853
           have p854 : 0 ≤ (x8_1 : Int) := of_decide_eq_true (by first | (with_reducible assumption) | assumption)
           have q854 : x8_1 < (l2.length : Int) := of_decide_eq_true (by first | (with_reducible assumption) | assumption)
           obtain ⟨ad854, e854, hx854_0⟩ := Kd.at_int HR2.out x8_1 p854 q854
           obtain rfl : ad852 = ad854 := (by injection e854)
           replace hx854_0 := (HB.out.cell (World.block_lt_of_cell? w _ hx854_0)).trans hx854_0
           replace p854 := eq_true p854
           replace q854 := eq_true q854
           have p855 : 0 ≤ ((ji9) : Int) := of_decide_eq_true (by first | (with_reducible assumption) | assumption)
           have q855 : (ji9) < (l2.length : Int) := of_decide_eq_true (by first | (with_reducible assumption) | assumption)
           obtain ⟨ad855, e855, hx855_0⟩ := Kd.at_int HR2.out (ji9) p855 q855
           obtain rfl : ad852 = ad855 := (by injection e855)
           replace hx855_0 := (HB.out.cell (World.block_lt_of_cell? w _ hx855_0)).trans hx855_0
           replace p855 := eq_true p855
           replace q855 := eq_true q855
           go_wp2
           repeat (go_quiet (fail); try go_wp2)
           go_ret
           exact ⟨by first | rfl | (simp [errW_none, errW_some] <;> rfl) | (simp only [← hji9]; first | rfl | (simp [errW_none, errW_some] <;> rfl)) | (simp [*, errW_none, errW_some] <;> rfl), by repeat (first | (with_reducible first | exact HB.out | apply below_alloc | apply pw_below_drewN | apply below_drew1) | exact HB.out)⟩
          ·rw [if_neg c12] at H
           have c12b0 : decide ((rd l2 x8_1) ≤ (rd l2 (ji9))) = false := decide_eq_false c12
           clear c12
           by_cases c13 : 0 ≤ (rd l2 x8_1)
           ·rw [if_pos c13] at H
            have c13b0 : decide (0 ≤ (rd l2 x8_1)) = true := decide_eq_true c13
            clear c13
            by_cases c14 : (rd l2 x8_1) < (l1.length : Int)
            ·rw [if_pos c14] at H
             have c14b0 : decide ((rd l2 x8_1) < (l1.length : Int)) = true := decide_eq_true c14
             clear c14
             by_cases c15 : x7_1.length < 2199023255552
             ·rw [if_pos c15] at H
              have LMc15 := Aside0.mk c15
              clear c15
              obtain ⟨y858, hy858⟩ : ∃ y_ : List (S44), y_ = (x7_1 ++ [(⟨(⟨(rd_T44 l1 (rd l2 x8_1)).f0.f0, (rd_T44 l1 (rd l2 x8_1)).f0.f1⟩ : S41), (⟨(rd_T44 l1 (rd l2 x8_1)).f1.f0, (rd_T44 l1 (rd l2 x8_1)).f1.f1⟩ : S41)⟩ : S44)]) := ⟨_, rfl⟩
              replace H : (tenetref02_Core.l0 k1 a0 l1 l2 y858 (wrap64 (x8_1 + 1))) = some r := by first | (rw [hy858]; with_reducible exact H) | (have H2_ := (Option.bind_some _ _).symm.trans H; rw [hy858]; with_reducible exact H2_) | (have H2_ := (Option.bind_some _ _).symm.trans H; with_reducible exact H2_) | with_reducible exact H | (rw [hy858]; exact H) | exact H
              have Ny858 := Aside0.mk hy858
              clear hy858
              have H' := Aside0.mk H
              clear H
              have p852 : 0 ≤ (x8_1 : Int) := of_decide_eq_true (by first | (with_reducible assumption) | assumption)
              have q852 : x8_1 < (l2.length : Int) := of_decide_eq_true (by first | (with_reducible assumption) | assumption)
              obtain ⟨ad852, e852, hx852_0⟩ := Kd.at_int HR2.out x8_1 p852 q852
              cases e852
              replace hx852_0 := (HB.out.cell (World.block_lt_of_cell? w _ hx852_0)).trans hx852_0
              replace p852 := eq_true p852
              replace q852 := eq_true q852
              have p853 : 0 ≤ (x8_1 : Int) := of_decide_eq_true (by first | (with_reducible assumption) | assumption)
              have q853 : x8_1 < (l2.length : Int) := of_decide_eq_true (by first | (with_reducible assumption) | assumption)
              obtain ⟨ad853, e853, hx853_0⟩ := Kd.at_int HR2.out x8_1 p853 q853
              obtain rfl : ad852 = ad853 := (by injection e853)
              replace hx853_0 := (HB.out.cell (World.block_lt_of_cell? w _ hx853_0)).trans hx853_0
              replace p853 := eq_true p853
              replace q853 := eq_true q853
              have p854 : 0 ≤ (x8_1 : Int) := of_decide_eq_true (by first | (with_reducible assumption) | assumption)
              have q854 : x8_1 < (l2.length : Int) := of_decide_eq_true (by first | (with_reducible assumption) | assumption)
              obtain ⟨ad854, e854, hx854_0⟩ := Kd.at_int HR2.out x8_1 p854 q854
              obtain rfl : ad852 = ad854 := (by injection e854)
              replace hx854_0 := (HB.out.cell (World.block_lt_of_cell? w _ hx854_0)).trans hx854_0
              replace p854 := eq_true p854
              replace q854 := eq_true q854
              have p855 : 0 ≤ ((ji9) : Int) := of_decide_eq_true (by first | (with_reducible assumption) | assumption)
              have q855 : (ji9) < (l2.length : Int) := of_decide_eq_true (by first | (with_reducible assumption) | assumption)
              obtain ⟨ad855, e855, hx855_0⟩ := Kd.at_int HR2.out (ji9) p855 q855
              obtain rfl : ad852 = ad855 := (by injection e855)
              replace hx855_0 := (HB.out.cell (World.block_lt_of_cell? w _ hx855_0)).trans hx855_0
              replace p855 := eq_true p855
              replace q855 := eq_true q855
              have p856 : 0 ≤ (x8_1 : Int) := of_decide_eq_true (by first | (with_reducible assumption) | assumption)
              have q856 : x8_1 < (l2.length : Int) := of_decide_eq_true (by first | (with_reducible assumption) | assumption)
              obtain ⟨ad856, e856, hx856_0⟩ := Kd.at_int HR2.out x8_1 p856 q856
              obtain rfl : ad852 = ad856 := (by injection e856)
              replace hx856_0 := (HB.out.cell (World.block_lt_of_cell? w _ hx856_0)).trans hx856_0
              replace p856 := eq_true p856
              replace q856 := eq_true q856
              have p857 : 0 ≤ ((rd l2 x8_1) : Int) := of_decide_eq_true (by first | (with_reducible assumption) | assumption)
              have q857 : (rd l2 x8_1) < (l1.length : Int) := of_decide_eq_true (by first | (with_reducible assumption) | assumption)
              obtain ⟨ad857, A857_1, c857_1, A857_3, c857_3, e857, hx857_0, hx857_1, hx857_2, hx857_3, hl857_1, hi857_1, hl857_3, hi857_3⟩ := at_T44 (Kd.V_reads' HO_1.out).2.2 (rd l2 x8_1) p857 q857
              cases e857
              obtain ⟨ce857, hce857, hMe857, hcc857⟩ := Kd.V_get HO_1.out z44 (rd l2 x8_1) p857 (by first | exact q857 | exact of_decide_eq_true (by first | (with_reducible assumption) | assumption) | (have e_ := (Kd.V_reads' HO_1.out).1; omega))
              obtain ⟨ua857_1, uc857_1, ua857_3, uc857_3, rfl, ul857_1, ge857_1, ul857_3, ge857_3⟩ := k44_openF hMe857
              have hv857_1 := hcc857 1 _ rfl
              rw [add_field _ _ 1 (by omega)] at hv857_1
              replace hv857_1 := Option.some.inj (hv857_1.symm.trans hx857_1)
              injection hv857_1 with hva_ hvn_ hvc_
              rw [hva_] at ge857_1
              rw [hvc_] at ul857_1
              have HL857_1 := Aside0.mk (show Kd.V k96 96 _ w.heap.size _ _ ((rd_T44 l1 (rd l2 x8_1)).f0.f1) from Kd.V_mk ul857_1 ge857_1)
              clear hva_ hvn_ hvc_ ge857_1 ul857_1
              have hv857_3 := hcc857 3 _ rfl
              rw [add_field _ _ 3 (by omega)] at hv857_3
              replace hv857_3 := Option.some.inj (hv857_3.symm.trans hx857_3)
              injection hv857_3 with hva_ hvn_ hvc_
              rw [hva_] at ge857_3
              rw [hvc_] at ul857_3
              have HL857_3 := Aside0.mk (show Kd.V k96 96 _ w.heap.size _ _ ((rd_T44 l1 (rd l2 x8_1)).f1.f1) from Kd.V_mk ul857_3 ge857_3)
              clear hva_ hvn_ hvc_ ge857_3 ul857_3
              clear hcc857 hce857
              have HR857_1 := Aside0.mk hi857_1
              have HC857_1 := Aside0.mk hl857_1
              clear hi857_1 hl857_1
              have HR857_3 := Aside0.mk hi857_3
              have HC857_3 := Aside0.mk hl857_3
              clear hi857_3 hl857_3
              replace p857 := eq_true p857
              replace q857 := eq_true q857
              go_wp2_with (first | ((with_reducible refine gate_builtin (b := .append) (xs := #[.tmp 50, .tmp 58]) rfl ?_); (try (refine gate_guard (by rfl) ?_; dsimp only)); at_builtin; refine Kd.N_append k44 (w0 := w) w.heap.size rfl (.tmp 50) (.tmp 58) 22 44 (.agg #[(.int .i64 0), (.slice none 0 0), (.int .i64 0), (.slice none 0 0)]) 64 rfl Try.underlying22 info44 rfl (by decide) (by omega) u7 x7_1 (⟨(⟨(rd_T44 l1 (rd l2 x8_1)).f0.f0, (rd_T44 l1 (rd l2 x8_1)).f0.f1⟩ : S41), (⟨(rd_T44 l1 (rd l2 x8_1)).f1.f0, (rd_T44 l1 (rd l2 x8_1)).f1.f1⟩ : S41)⟩ : S44) [.int .i64 ((rd_T44 l1 (rd l2 x8_1)).f0.f0), .slice A857_1 ((rd_T44 l1 (rd l2 x8_1)).f0.f1).length c857_1, .int .i64 ((rd_T44 l1 (rd l2 x8_1)).f1.f0), .slice A857_3 ((rd_T44 l1 (rd l2 x8_1)).f1.f1).length c857_3] (fun k_ => (P1_ k_ ∨ w.heap.size ≤ k_)) (fun k_ => ((fun k_ => (P1_ k_ ∨ w.heap.size ≤ k_))) k_ ∧ some k_ ≠ (u7 : Value).ownBlock) rfl rfl ?aP (fun _ hk => hk) ?aF ?aO ?aB ?aS ?aL ?_; (case aP => exact (k44_mkF _ _ (⟨(⟨(rd_T44 l1 (rd l2 x8_1)).f0.f0, (rd_T44 l1 (rd l2 x8_1)).f0.f1⟩ : S41), (⟨(rd_T44 l1 (rd l2 x8_1)).f1.f0, (rd_T44 l1 (rd l2 x8_1)).f1.f1⟩ : S41)⟩ : S44) (Kd.V_reads' (Kd.V_mono (ok' := (fun k_ => ((fun k_ => (P1_ k_ ∨ w.heap.size ≤ k_))) k_ ∧ some k_ ≠ (u7 : Value).ownBlock)) (HL857_1.out) (fun k_ hk => ⟨hk.1, hk.2⟩))).2.1 (Kd.V_F (Kd.V_mono (ok' := (fun k_ => ((fun k_ => (P1_ k_ ∨ w.heap.size ≤ k_))) k_ ∧ some k_ ≠ (u7 : Value).ownBlock)) (HL857_1.out) (fun k_ hk => ⟨hk.1, hk.2⟩))) (Kd.V_reads' (Kd.V_mono (ok' := (fun k_ => ((fun k_ => (P1_ k_ ∨ w.heap.size ≤ k_))) k_ ∧ some k_ ≠ (u7 : Value).ownBlock)) (HL857_3.out) (fun k_ hk => ⟨hk.1, hk.2⟩))).2.1 (Kd.V_F (Kd.V_mono (ok' := (fun k_ => ((fun k_ => (P1_ k_ ∨ w.heap.size ≤ k_))) k_ ∧ some k_ ≠ (u7 : Value).ownBlock)) (HL857_3.out) (fun k_ hk => ⟨hk.1, hk.2⟩))))); (case aB => exact (by repeat (first | (with_reducible first | exact HB.out | apply below_alloc | apply pw_below_drewN | apply below_drew1) | exact HB.out))); (case aF => exact (fun k_ hk => (.inr (Nat.le_trans (below_size (by repeat (first | (with_reducible first | exact HB.out | apply below_alloc | apply pw_below_drewN | apply below_drew1) | exact HB.out))) hk)))); (case aO => exact (by (with_reducible repeat (first | apply Kd.N_alloc | apply Kd.N_drewN | apply Kd.N_drew)); exact HO_7.out)); (case aS => exact (below_size (by repeat (first | (with_reducible first | exact HB.out | apply below_alloc | apply pw_below_drewN | apply below_drew1) | exact HB.out)))); (case aL => have := LMc15.out; omega); intro v859 w16 ho hb hg hat; rw [← Ny858.out] at ho; have n0_ := Aside0.mk (Kd.V_afterv (ok := (fun k_ => (P1_ k_ ∨ w.heap.size ≤ k_))) (by (with_reducible repeat (first | apply Kd.V_alloc | apply Kd.V_drewN | apply Kd.V_drew)); exact HO_1.out) hg hat); have n1_ := Aside0.mk (Kd.V_afterv (ok := (fun k_ => (P1_ k_ ∨ w.heap.size ≤ k_))) (by (with_reducible repeat (first | apply Kd.V_alloc | apply Kd.V_drewN | apply Kd.V_drew)); exact HL857_1.out) hg hat); have n2_ := Aside0.mk (Kd.V_afterv (ok := (fun k_ => (P1_ k_ ∨ w.heap.size ≤ k_))) (by (with_reducible repeat (first | apply Kd.V_alloc | apply Kd.V_drewN | apply Kd.V_drew)); exact HL857_3.out) hg hat); have n3_ := Aside0.mk (hb); have n4_ := Aside0.mk (ho); clear HO_1; clear HL857_1; clear HL857_3; clear HB; clear HO_7; have HO_1 := n0_; have HL857_1 := n1_; have HL857_3 := n2_; have HB := n3_; have HO860 := n4_; clear n0_ n1_ n2_ n3_ n4_; clear ho hb hg hat))
              repeat (go_quiet (first | ((with_reducible refine gate_builtin (b := .append) (xs := #[.tmp 50, .tmp 58]) rfl ?_); (try (refine gate_guard (by rfl) ?_; dsimp only)); at_builtin; refine Kd.N_append k44 (w0 := w) w.heap.size rfl (.tmp 50) (.tmp 58) 22 44 (.agg #[(.int .i64 0), (.slice none 0 0), (.int .i64 0), (.slice none 0 0)]) 64 rfl Try.underlying22 info44 rfl (by decide) (by omega) u7 x7_1 (⟨(⟨(rd_T44 l1 (rd l2 x8_1)).f0.f0, (rd_T44 l1 (rd l2 x8_1)).f0.f1⟩ : S41), (⟨(rd_T44 l1 (rd l2 x8_1)).f1.f0, (rd_T44 l1 (rd l2 x8_1)).f1.f1⟩ : S41)⟩ : S44) [.int .i64 ((rd_T44 l1 (rd l2 x8_1)).f0.f0), .slice A857_1 ((rd_T44 l1 (rd l2 x8_1)).f0.f1).length c857_1, .int .i64 ((rd_T44 l1 (rd l2 x8_1)).f1.f0), .slice A857_3 ((rd_T44 l1 (rd l2 x8_1)).f1.f1).length c857_3] (fun k_ => (P1_ k_ ∨ w.heap.size ≤ k_)) (fun k_ => ((fun k_ => (P1_ k_ ∨ w.heap.size ≤ k_))) k_ ∧ some k_ ≠ (u7 : Value).ownBlock) rfl rfl ?aP (fun _ hk => hk) ?aF ?aO ?aB ?aS ?aL ?_; (case aP => exact (k44_mkF _ _ (⟨(⟨(rd_T44 l1 (rd l2 x8_1)).f0.f0, (rd_T44 l1 (rd l2 x8_1)).f0.f1⟩ : S41), (⟨(rd_T44 l1 (rd l2 x8_1)).f1.f0, (rd_T44 l1 (rd l2 x8_1)).f1.f1⟩ : S41)⟩ : S44) (Kd.V_reads' (Kd.V_mono (ok' := (fun k_ => ((fun k_ => (P1_ k_ ∨ w.heap.size ≤ k_))) k_ ∧ some k_ ≠ (u7 : Value).ownBlock)) (HL857_1.out) (fun k_ hk => ⟨hk.1, hk.2⟩))).2.1 (Kd.V_F (Kd.V_mono (ok' := (fun k_ => ((fun k_ => (P1_ k_ ∨ w.heap.size ≤ k_))) k_ ∧ some k_ ≠ (u7 : Value).ownBlock)) (HL857_1.out) (fun k_ hk => ⟨hk.1, hk.2⟩))) (Kd.V_reads' (Kd.V_mono (ok' := (fun k_ => ((fun k_ => (P1_ k_ ∨ w.heap.size ≤ k_))) k_ ∧ some k_ ≠ (u7 : Value).ownBlock)) (HL857_3.out) (fun k_ hk => ⟨hk.1, hk.2⟩))).2.1 (Kd.V_F (Kd.V_mono (ok' := (fun k_ => ((fun k_ => (P1_ k_ ∨ w.heap.size ≤ k_))) k_ ∧ some k_ ≠ (u7 : Value).ownBlock)) (HL857_3.out) (fun k_ hk => ⟨hk.1, hk.2⟩))))); (case aB => exact (by repeat (first | (with_reducible first | exact HB.out | apply below_alloc | apply pw_below_drewN | apply below_drew1) | exact HB.out))); (case aF => exact (fun k_ hk => (.inr (Nat.le_trans (below_size (by repeat (first | (with_reducible first | exact HB.out | apply below_alloc | apply pw_below_drewN | apply below_drew1) | exact HB.out))) hk)))); (case aO => exact (by (with_reducible repeat (first | apply Kd.N_alloc | apply Kd.N_drewN | apply Kd.N_drew)); exact HO_7.out)); (case aS => exact (below_size (by repeat (first | (with_reducible first | exact HB.out | apply below_alloc | apply pw_below_drewN | apply below_drew1) | exact HB.out)))); (case aL => have := LMc15.out; omega); intro v859 w16 ho hb hg hat; rw [← Ny858.out] at ho; have n0_ := Aside0.mk (Kd.V_afterv (ok := (fun k_ => (P1_ k_ ∨ w.heap.size ≤ k_))) (by (with_reducible repeat (first | apply Kd.V_alloc | apply Kd.V_drewN | apply Kd.V_drew)); exact HO_1.out) hg hat); have n1_ := Aside0.mk (Kd.V_afterv (ok := (fun k_ => (P1_ k_ ∨ w.heap.size ≤ k_))) (by (with_reducible repeat (first | apply Kd.V_alloc | apply Kd.V_drewN | apply Kd.V_drew)); exact HL857_1.out) hg hat); have n2_ := Aside0.mk (Kd.V_afterv (ok := (fun k_ => (P1_ k_ ∨ w.heap.size ≤ k_))) (by (with_reducible repeat (first | apply Kd.V_alloc | apply Kd.V_drewN | apply Kd.V_drew)); exact HL857_3.out) hg hat); have n3_ := Aside0.mk (hb); have n4_ := Aside0.mk (ho); clear HO_1; clear HL857_1; clear HL857_3; clear HB; clear HO_7; have HO_1 := n0_; have HL857_1 := n1_; have HL857_3 := n2_; have HB := n3_; have HO860 := n4_; clear n0_ n1_ n2_ n3_ n4_; clear ho hb hg hat)); try go_wp2_with (first | ((with_reducible refine gate_builtin (b := .append) (xs := #[.tmp 50, .tmp 58]) rfl ?_); (try (refine gate_guard (by rfl) ?_; dsimp only)); at_builtin; refine Kd.N_append k44 (w0 := w) w.heap.size rfl (.tmp 50) (.tmp 58) 22 44 (.agg #[(.int .i64 0), (.slice none 0 0), (.int .i64 0), (.slice none 0 0)]) 64 rfl Try.underlying22 info44 rfl (by decide) (by omega) u7 x7_1 (⟨(⟨(rd_T44 l1 (rd l2 x8_1)).f0.f0, (rd_T44 l1 (rd l2 x8_1)).f0.f1⟩ : S41), (⟨(rd_T44 l1 (rd l2 x8_1)).f1.f0, (rd_T44 l1 (rd l2 x8_1)).f1.f1⟩ : S41)⟩ : S44) [.int .i64 ((rd_T44 l1 (rd l2 x8_1)).f0.f0), .slice A857_1 ((rd_T44 l1 (rd l2 x8_1)).f0.f1).length c857_1, .int .i64 ((rd_T44 l1 (rd l2 x8_1)).f1.f0), .slice A857_3 ((rd_T44 l1 (rd l2 x8_1)).f1.f1).length c857_3] (fun k_ => (P1_ k_ ∨ w.heap.size ≤ k_)) (fun k_ => ((fun k_ => (P1_ k_ ∨ w.heap.size ≤ k_))) k_ ∧ some k_ ≠ (u7 : Value).ownBlock) rfl rfl ?aP (fun _ hk => hk) ?aF ?aO ?aB ?aS ?aL ?_; (case aP => exact (k44_mkF _ _ (⟨(⟨(rd_T44 l1 (rd l2 x8_1)).f0.f0, (rd_T44 l1 (rd l2 x8_1)).f0.f1⟩ : S41), (⟨(rd_T44 l1 (rd l2 x8_1)).f1.f0, (rd_T44 l1 (rd l2 x8_1)).f1.f1⟩ : S41)⟩ : S44) (Kd.V_reads' (Kd.V_mono (ok' := (fun k_ => ((fun k_ => (P1_ k_ ∨ w.heap.size ≤ k_))) k_ ∧ some k_ ≠ (u7 : Value).ownBlock)) (HL857_1.out) (fun k_ hk => ⟨hk.1, hk.2⟩))).2.1 (Kd.V_F (Kd.V_mono (ok' := (fun k_ => ((fun k_ => (P1_ k_ ∨ w.heap.size ≤ k_))) k_ ∧ some k_ ≠ (u7 : Value).ownBlock)) (HL857_1.out) (fun k_ hk => ⟨hk.1, hk.2⟩))) (Kd.V_reads' (Kd.V_mono (ok' := (fun k_ => ((fun k_ => (P1_ k_ ∨ w.heap.size ≤ k_))) k_ ∧ some k_ ≠ (u7 : Value).ownBlock)) (HL857_3.out) (fun k_ hk => ⟨hk.1, hk.2⟩))).2.1 (Kd.V_F (Kd.V_mono (ok' := (fun k_ => ((fun k_ => (P1_ k_ ∨ w.heap.size ≤ k_))) k_ ∧ some k_ ≠ (u7 : Value).ownBlock)) (HL857_3.out) (fun k_ hk => ⟨hk.1, hk.2⟩))))); (case aB => exact (by repeat (first | (with_reducible first | exact HB.out | apply below_alloc | apply pw_below_drewN | apply below_drew1) | exact HB.out))); (case aF => exact (fun k_ hk => (.inr (Nat.le_trans (below_size (by repeat (first | (with_reducible first | exact HB.out | apply below_alloc | apply pw_below_drewN | apply below_drew1) | exact HB.out))) hk)))); (case aO => exact (by (with_reducible repeat (first | apply Kd.N_alloc | apply Kd.N_drewN | apply Kd.N_drew)); exact HO_7.out)); (case aS => exact (below_size (by repeat (first | (with_reducible first | exact HB.out | apply below_alloc | apply pw_below_drewN | apply below_drew1) | exact HB.out)))); (case aL => have := LMc15.out; omega); intro v859 w16 ho hb hg hat; rw [← Ny858.out] at ho; have n0_ := Aside0.mk (Kd.V_afterv (ok := (fun k_ => (P1_ k_ ∨ w.heap.size ≤ k_))) (by (with_reducible repeat (first | apply Kd.V_alloc | apply Kd.V_drewN | apply Kd.V_drew)); exact HO_1.out) hg hat); have n1_ := Aside0.mk (Kd.V_afterv (ok := (fun k_ => (P1_ k_ ∨ w.heap.size ≤ k_))) (by (with_reducible repeat (first | apply Kd.V_alloc | apply Kd.V_drewN | apply Kd.V_drew)); exact HL857_1.out) hg hat); have n2_ := Aside0.mk (Kd.V_afterv (ok := (fun k_ => (P1_ k_ ∨ w.heap.size ≤ k_))) (by (with_reducible repeat (first | apply Kd.V_alloc | apply Kd.V_drewN | apply Kd.V_drew)); exact HL857_3.out) hg hat); have n3_ := Aside0.mk (hb); have n4_ := Aside0.mk (ho); clear HO_1; clear HL857_1; clear HL857_3; clear HB; clear HO_7; have HO_1 := n0_; have HL857_1 := n1_; have HL857_3 := n2_; have HB := n3_; have HO860 := n4_; clear n0_ n1_ n2_ n3_ n4_; clear ho hb hg hat)))
              go_roundg k1
              case measure => have := HK1.out; omega
              case rel => exact ⟨(y858), (wrap64 (x8_1 + 1)), (by first | rfl | (simp; done) | (simp [*]; done)), H', ⟨by have := HK1.out; omega⟩, ⟨by (with_reducible repeat (first | apply Kd.V_alloc | apply Kd.V_drewN | apply Kd.V_drew)); exact HO_1.out⟩, ⟨by (with_reducible repeat (first | apply Kd.N_alloc | apply Kd.N_drewN | apply Kd.N_drew)); exact HO860.out⟩, ⟨by repeat (first | (with_reducible first | exact HB.out | apply below_alloc | apply pw_below_drewN | apply below_drew1) | exact HB.out)⟩⟩
             ·rw [if_neg c15] at H
              exact absurd H (by simp)
            ·rw [if_neg c14] at H
             exact absurd H (by simp)
           ·rw [if_neg c13] at H
            exact absurd H (by simp)
         ·rw [if_neg c11] at H
          exact absurd H (by simp)
        ·rw [if_neg c10] at H
         exact absurd H (by simp)
       ·rw [if_neg c8] at H
        have c8b0 : decide (0 < x8_1) = false := decide_eq_false c8
        clear c8
        by_cases c17 : 0 ≤ (rd l2 x8_1)
        ·rw [if_pos c17] at H
         have c17b0 : decide (0 ≤ (rd l2 x8_1)) = true := decide_eq_true c17
         clear c17
         by_cases c18 : (rd l2 x8_1) < (l1.length : Int)
         ·rw [if_pos c18] at H
          have c18b0 : decide ((rd l2 x8_1) < (l1.length : Int)) = true := decide_eq_true c18
          clear c18
          by_cases c19 : x7_1.length < 2199023255552
          ·rw [if_pos c19] at H
           have LMc19 := Aside0.mk c19
           clear c19
           obtain ⟨y863, hy863⟩ : ∃ y_ : List (S44), y_ = (x7_1 ++ [(⟨(⟨(rd_T44 l1 (rd l2 x8_1)).f0.f0, (rd_T44 l1 (rd l2 x8_1)).f0.f1⟩ : S41), (⟨(rd_T44 l1 (rd l2 x8_1)).f1.f0, (rd_T44 l1 (rd l2 x8_1)).f1.f1⟩ : S41)⟩ : S44)]) := ⟨_, rfl⟩
           replace H : (tenetref02_Core.l0 k1 a0 l1 l2 y863 (wrap64 (x8_1 + 1))) = some r := by first | (rw [hy863]; with_reducible exact H) | (have H2_ := (Option.bind_some _ _).symm.trans H; rw [hy863]; with_reducible exact H2_) | (have H2_ := (Option.bind_some _ _).symm.trans H; with_reducible exact H2_) | with_reducible exact H | (rw [hy863]; exact H) | exact H
           have Ny863 := Aside0.mk hy863
           clear hy863
           have H' := Aside0.mk H
           clear H
           have p852 : 0 ≤ (x8_1 : Int) := of_decide_eq_true (by first | (with_reducible assumption) | assumption)
           have q852 : x8_1 < (l2.length : Int) := of_decide_eq_true (by first | (with_reducible assumption) | assumption)
           obtain ⟨ad852, e852, hx852_0⟩ := Kd.at_int HR2.out x8_1 p852 q852
           cases e852
           replace hx852_0 := (HB.out.cell (World.block_lt_of_cell? w _ hx852_0)).trans hx852_0
           replace p852 := eq_true p852
           replace q852 := eq_true q852
           have p853 : 0 ≤ (x8_1 : Int) := of_decide_eq_true (by first | (with_reducible assumption) | assumption)
           have q853 : x8_1 < (l2.length : Int) := of_decide_eq_true (by first | (with_reducible assumption) | assumption)
           obtain ⟨ad853, e853, hx853_0⟩ := Kd.at_int HR2.out x8_1 p853 q853
           obtain rfl : ad852 = ad853 := (by injection e853)
           replace hx853_0 := (HB.out.cell (World.block_lt_of_cell? w _ hx853_0)).trans hx853_0
           replace p853 := eq_true p853
           replace q853 := eq_true q853
           have p861 : 0 ≤ (x8_1 : Int) := of_decide_eq_true (by first | (with_reducible assumption) | assumption)
           have q861 : x8_1 < (l2.length : Int) := of_decide_eq_true (by first | (with_reducible assumption) | assumption)
           obtain ⟨ad861, e861, hx861_0⟩ := Kd.at_int HR2.out x8_1 p861 q861
           obtain rfl : ad852 = ad861 := (by injection e861)
           replace hx861_0 := (HB.out.cell (World.block_lt_of_cell? w _ hx861_0)).trans hx861_0
           replace p861 := eq_true p861
           replace q861 := eq_true q861
           have p862 : 0 ≤ ((rd l2 x8_1) : Int) := of_decide_eq_true (by first | (with_reducible assumption) | assumption)
           have q862 : (rd l2 x8_1) < (l1.length : Int) := of_decide_eq_true (by first | (with_reducible assumption) | assumption)
           obtain ⟨ad862, A862_1, c862_1, A862_3, c862_3, e862, hx862_0, hx862_1, hx862_2, hx862_3, hl862_1, hi862_1, hl862_3, hi862_3⟩ := at_T44 (Kd.V_reads' HO_1.out).2.2 (rd l2 x8_1) p862 q862
           cases e862
           obtain ⟨ce862, hce862, hMe862, hcc862⟩ := Kd.V_get HO_1.out z44 (rd l2 x8_1) p862 (by first | exact q862 | exact of_decide_eq_true (by first | (with_reducible assumption) | assumption) | (have e_ := (Kd.V_reads' HO_1.out).1; omega))
           obtain ⟨ua862_1, uc862_1, ua862_3, uc862_3, rfl, ul862_1, ge862_1, ul862_3, ge862_3⟩ := k44_openF hMe862
           have hv862_1 := hcc862 1 _ rfl
           rw [add_field _ _ 1 (by omega)] at hv862_1
           replace hv862_1 := Option.some.inj (hv862_1.symm.trans hx862_1)
           injection hv862_1 with hva_ hvn_ hvc_
           rw [hva_] at ge862_1
           rw [hvc_] at ul862_1
           have HL862_1 := Aside0.mk (show Kd.V k96 96 _ w.heap.size _ _ ((rd_T44 l1 (rd l2 x8_1)).f0.f1) from Kd.V_mk ul862_1 ge862_1)
           clear hva_ hvn_ hvc_ ge862_1 ul862_1
           have hv862_3 := hcc862 3 _ rfl
           rw [add_field _ _ 3 (by omega)] at hv862_3
           replace hv862_3 := Option.some.inj (hv862_3.symm.trans hx862_3)
           injection hv862_3 with hva_ hvn_ hvc_
           rw [hva_] at ge862_3
           rw [hvc_] at ul862_3
           have HL862_3 := Aside0.mk (show Kd.V k96 96 _ w.heap.size _ _ ((rd_T44 l1 (rd l2 x8_1)).f1.f1) from Kd.V_mk ul862_3 ge862_3)
           clear hva_ hvn_ hvc_ ge862_3 ul862_3
           clear hcc862 hce862
           have HR862_1 := Aside0.mk hi862_1
           have HC862_1 := Aside0.mk hl862_1
           clear hi862_1 hl862_1
           have HR862_3 := Aside0.mk hi862_3
           have HC862_3 := Aside0.mk hl862_3
           clear hi862_3 hl862_3
           replace p862 := eq_true p862
           replace q862 := eq_true q862
           go_wp2_with (first | ((with_reducible refine gate_builtin (b := .append) (xs := #[.tmp 50, .tmp 58]) rfl ?_); (try (refine gate_guard (by rfl) ?_; dsimp only)); at_builtin; refine Kd.N_append k44 (w0 := w) w.heap.size rfl (.tmp 50) (.tmp 58) 22 44 (.agg #[(.int .i64 0), (.slice none 0 0), (.int .i64 0), (.slice none 0 0)]) 64 rfl Try.underlying22 info44 rfl (by decide) (by omega) u7 x7_1 (⟨(⟨(rd_T44 l1 (rd l2 x8_1)).f0.f0, (rd_T44 l1 (rd l2 x8_1)).f0.f1⟩ : S41), (⟨(rd_T44 l1 (rd l2 x8_1)).f1.f0, (rd_T44 l1 (rd l2 x8_1)).f1.f1⟩ : S41)⟩ : S44) [.int .i64 ((rd_T44 l1 (rd l2 x8_1)).f0.f0), .slice A862_1 ((rd_T44 l1 (rd l2 x8_1)).f0.f1).length c862_1, .int .i64 ((rd_T44 l1 (rd l2 x8_1)).f1.f0), .slice A862_3 ((rd_T44 l1 (rd l2 x8_1)).f1.f1).length c862_3] (fun k_ => (P1_ k_ ∨ w.heap.size ≤ k_)) (fun k_ => ((fun k_ => (P1_ k_ ∨ w.heap.size ≤ k_))) k_ ∧ some k_ ≠ (u7 : Value).ownBlock) rfl rfl ?aP (fun _ hk => hk) ?aF ?aO ?aB ?aS ?aL ?_; (case aP => exact (k44_mkF _ _ (⟨(⟨(rd_T44 l1 (rd l2 x8_1)).f0.f0, (rd_T44 l1 (rd l2 x8_1)).f0.f1⟩ : S41), (⟨(rd_T44 l1 (rd l2 x8_1)).f1.f0, (rd_T44 l1 (rd l2 x8_1)).f1.f1⟩ : S41)⟩ : S44) (Kd.V_reads' (Kd.V_mono (ok' := (fun k_ => ((fun k_ => (P1_ k_ ∨ w.heap.size ≤ k_))) k_ ∧ some k_ ≠ (u7 : Value).ownBlock)) (HL862_1.out) (fun k_ hk => ⟨hk.1, hk.2⟩))).2.1 (Kd.V_F (Kd.V_mono (ok' := (fun k_ => ((fun k_ => (P1_ k_ ∨ w.heap.size ≤ k_))) k_ ∧ some k_ ≠ (u7 : Value).ownBlock)) (HL862_1.out) (fun k_ hk => ⟨hk.1, hk.2⟩))) (Kd.V_reads' (Kd.V_mono (ok' := (fun k_ => ((fun k_ => (P1_ k_ ∨ w.heap.size ≤ k_))) k_ ∧ some k_ ≠ (u7 : Value).ownBlock)) (HL862_3.out) (fun k_ hk => ⟨hk.1, hk.2⟩))).2.1 (Kd.V_F (Kd.V_mono (ok' := (fun k_ => ((fun k_ => (P1_ k_ ∨ w.heap.size ≤ k_))) k_ ∧ some k_ ≠ (u7 : Value).ownBlock)) (HL862_3.out) (fun k_ hk => ⟨hk.1, hk.2⟩))))); (case aB => exact (by repeat (first | (with_reducible first | exact HB.out | apply below_alloc | apply pw_below_drewN | apply below_drew1) | exact HB.out))); (case aF => exact (fun k_ hk => (.inr (Nat.le_trans (below_size (by repeat (first | (with_reducible first | exact HB.out | apply below_alloc | apply pw_below_drewN | apply below_drew1) | exact HB.out))) hk)))); (case aO => exact (by (with_reducible repeat (first | apply Kd.N_alloc | apply Kd.N_drewN | apply Kd.N_drew)); exact HO_7.out)); (case aS => exact (below_size (by repeat (first | (with_reducible first | exact HB.out | apply below_alloc | apply pw_below_drewN | apply below_drew1) | exact HB.out)))); (case aL => have := LMc19.out; omega); intro v864 w20 ho hb hg hat; rw [← Ny863.out] at ho; have n0_ := Aside0.mk (Kd.V_afterv (ok := (fun k_ => (P1_ k_ ∨ w.heap.size ≤ k_))) (by (with_reducible repeat (first | apply Kd.V_alloc | apply Kd.V_drewN | apply Kd.V_drew)); exact HO_1.out) hg hat); have n1_ := Aside0.mk (Kd.V_afterv (ok := (fun k_ => (P1_ k_ ∨ w.heap.size ≤ k_))) (by (with_reducible repeat (first | apply Kd.V_alloc | apply Kd.V_drewN | apply Kd.V_drew)); exact HL862_1.out) hg hat); have n2_ := Aside0.mk (Kd.V_afterv (ok := (fun k_ => (P1_ k_ ∨ w.heap.size ≤ k_))) (by (with_reducible repeat (first | apply Kd.V_alloc | apply Kd.V_drewN | apply Kd.V_drew)); exact HL862_3.out) hg hat); have n3_ := Aside0.mk (hb); have n4_ := Aside0.mk (ho); clear HO_1; clear HL862_1; clear HL862_3; clear HB; clear HO_7; have HO_1 := n0_; have HL862_1 := n1_; have HL862_3 := n2_; have HB := n3_; have HO865 := n4_; clear n0_ n1_ n2_ n3_ n4_; clear ho hb hg hat))
           repeat (go_quiet (first | ((with_reducible refine gate_builtin (b := .append) (xs := #[.tmp 50, .tmp 58]) rfl ?_); (try (refine gate_guard (by rfl) ?_; dsimp only)); at_builtin; refine Kd.N_append k44 (w0 := w) w.heap.size rfl (.tmp 50) (.tmp 58) 22 44 (.agg #[(.int .i64 0), (.slice none 0 0), (.int .i64 0), (.slice none 0 0)]) 64 rfl Try.underlying22 info44 rfl (by decide) (by omega) u7 x7_1 (⟨(⟨(rd_T44 l1 (rd l2 x8_1)).f0.f0, (rd_T44 l1 (rd l2 x8_1)).f0.f1⟩ : S41), (⟨(rd_T44 l1 (rd l2 x8_1)).f1.f0, (rd_T44 l1 (rd l2 x8_1)).f1.f1⟩ : S41)⟩ : S44) [.int .i64 ((rd_T44 l1 (rd l2 x8_1)).f0.f0), .slice A862_1 ((rd_T44 l1 (rd l2 x8_1)).f0.f1).length c862_1, .int .i64 ((rd_T44 l1 (rd l2 x8_1)).f1.f0), .slice A862_3 ((rd_T44 l1 (rd l2 x8_1)).f1.f1).length c862_3] (fun k_ => (P1_ k_ ∨ w.heap.size ≤ k_)) (fun k_ => ((fun k_ => (P1_ k_ ∨ w.heap.size ≤ k_))) k_ ∧ some k_ ≠ (u7 : Value).ownBlock) rfl rfl ?aP (fun _ hk => hk) ?aF ?aO ?aB ?aS ?aL ?_; (case aP => exact (k44_mkF _ _ (⟨(⟨(rd_T44 l1 (rd l2 x8_1)).f0.f0, (rd_T44 l1 (rd l2 x8_1)).f0.f1⟩ : S41), (⟨(rd_T44 l1 (rd l2 x8_1)).f1.f0, (rd_T44 l1 (rd l2 x8_1)).f1.f1⟩ : S41)⟩ : S44) (Kd.V_reads' (Kd.V_mono (ok' := (fun k_ => ((fun k_ => (P1_ k_ ∨ w.heap.size ≤ k_))) k_ ∧ some k_ ≠ (u7 : Value).ownBlock)) (HL862_1.out) (fun k_ hk => ⟨hk.1, hk.2⟩))).2.1 (Kd.V_F (Kd.V_mono (ok' := (fun k_ => ((fun k_ => (P1_ k_ ∨ w.heap.size ≤ k_))) k_ ∧ some k_ ≠ (u7 : Value).ownBlock)) (HL862_1.out) (fun k_ hk => ⟨hk.1, hk.2⟩))) (Kd.V_reads' (Kd.V_mono (ok' := (fun k_ => ((fun k_ => (P1_ k_ ∨ w.heap.size ≤ k_))) k_ ∧ some k_ ≠ (u7 : Value).ownBlock)) (HL862_3.out) (fun k_ hk => ⟨hk.1, hk.2⟩))).2.1 (Kd.V_F (Kd.V_mono (ok' := (fun k_ => ((fun k_ => (P1_ k_ ∨ w.heap.size ≤ k_))) k_ ∧ some k_ ≠ (u7 : Value).ownBlock)) (HL862_3.out) (fun k_ hk => ⟨hk.1, hk.2⟩))))); (case aB => exact (by repeat (first | (with_reducible first | exact HB.out | apply below_alloc | apply pw_below_drewN | apply below_drew1) | exact HB.out))); (case aF => exact (fun k_ hk => (.inr (Nat.le_trans (below_size (by repeat (first | (with_reducible first | exact HB.out | apply below_alloc | apply pw_below_drewN | apply below_drew1) | exact HB.out))) hk)))); (case aO => exact (by (with_reducible repeat (first | apply Kd.N_alloc | apply Kd.N_drewN | apply Kd.N_drew)); exact HO_7.out)); (case aS => exact (below_size (by repeat (first | (with_reducible first | exact HB.out | apply below_alloc | apply pw_below_drewN | apply below_drew1) | exact HB.out)))); (case aL => have := LMc19.out; omega); intro v864 w20 ho hb hg hat; rw [← Ny863.out] at ho; have n0_ := Aside0.mk (Kd.V_afterv (ok := (fun k_ => (P1_ k_ ∨ w.heap.size ≤ k_))) (by (with_reducible repeat (first | apply Kd.V_alloc | apply Kd.V_drewN | apply Kd.V_drew)); exact HO_1.out) hg hat); have n1_ := Aside0.mk (Kd.V_afterv (ok := (fun k_ => (P1_ k_ ∨ w.heap.size ≤ k_))) (by (with_reducible repeat (first | apply Kd.V_alloc | apply Kd.V_drewN | apply Kd.V_drew)); exact HL862_1.out) hg hat); have n2_ := Aside0.mk (Kd.V_afterv (ok := (fun k_ => (P1_ k_ ∨ w.heap.size ≤ k_))) (by (with_reducible repeat (first | apply Kd.V_alloc | apply Kd.V_drewN | apply Kd.V_drew)); exact HL862_3.out) hg hat); have n3_ := Aside0.mk (hb); have n4_ := Aside0.mk (ho); clear HO_1; clear HL862_1; clear HL862_3; clear HB; clear HO_7; have HO_1 := n0_; have HL862_1 := n1_; have HL862_3 := n2_; have HB := n3_; have HO865 := n4_; clear n0_ n1_ n2_ n3_ n4_; clear ho hb hg hat)); try go_wp2_with (first | ((with_reducible refine gate_builtin (b := .append) (xs := #[.tmp 50, .tmp 58]) rfl ?_); (try (refine gate_guard (by rfl) ?_; dsimp only)); at_builtin; refine Kd.N_append k44 (w0 := w) w.heap.size rfl (.tmp 50) (.tmp 58) 22 44 (.agg #[(.int .i64 0), (.slice none 0 0), (.int .i64 0), (.slice none 0 0)]) 64 rfl Try.underlying22 info44 rfl (by decide) (by omega) u7 x7_1 (⟨(⟨(rd_T44 l1 (rd l2 x8_1)).f0.f0, (rd_T44 l1 (rd l2 x8_1)).f0.f1⟩ : S41), (⟨(rd_T44 l1 (rd l2 x8_1)).f1.f0, (rd_T44 l1 (rd l2 x8_1)).f1.f1⟩ : S41)⟩ : S44) [.int .i64 ((rd_T44 l1 (rd l2 x8_1)).f0.f0), .slice A862_1 ((rd_T44 l1 (rd l2 x8_1)).f0.f1).length c862_1, .int .i64 ((rd_T44 l1 (rd l2 x8_1)).f1.f0), .slice A862_3 ((rd_T44 l1 (rd l2 x8_1)).f1.f1).length c862_3] (fun k_ => (P1_ k_ ∨ w.heap.size ≤ k_)) (fun k_ => ((fun k_ => (P1_ k_ ∨ w.heap.size ≤ k_))) k_ ∧ some k_ ≠ (u7 : Value).ownBlock) rfl rfl ?aP (fun _ hk => hk) ?aF ?aO ?aB ?aS ?aL ?_; (case aP => exact (k44_mkF _ _ (⟨(⟨(rd_T44 l1 (rd l2 x8_1)).f0.f0, (rd_T44 l1 (rd l2 x8_1)).f0.f1⟩ : S41), (⟨(rd_T44 l1 (rd l2 x8_1)).f1.f0, (rd_T44 l1 (rd l2 x8_1)).f1.f1⟩ : S41)⟩ : S44) (Kd.V_reads' (Kd.V_mono (ok' := (fun k_ => ((fun k_ => (P1_ k_ ∨ w.heap.size ≤ k_))) k_ ∧ some k_ ≠ (u7 : Value).ownBlock)) (HL862_1.out) (fun k_ hk => ⟨hk.1, hk.2⟩))).2.1 (Kd.V_F (Kd.V_mono (ok' := (fun k_ => ((fun k_ => (P1_ k_ ∨ w.heap.size ≤ k_))) k_ ∧ some k_ ≠ (u7 : Value).ownBlock)) (HL862_1.out) (fun k_ hk => ⟨hk.1, hk.2⟩))) (Kd.V_reads' (Kd.V_mono (ok' := (fun k_ => ((fun k_ => (P1_ k_ ∨ w.heap.size ≤ k_))) k_ ∧ some k_ ≠ (u7 : Value).ownBlock)) (HL862_3.out) (fun k_ hk => ⟨hk.1, hk.2⟩))).2.1 (Kd.V_F (Kd.V_mono (ok' := (fun k_ => ((fun k_ => (P1_ k_ ∨ w.heap.size ≤ k_))) k_ ∧ some k_ ≠ (u7 : Value).ownBlock)) (HL862_3.out) (fun k_ hk => ⟨hk.1, hk.2⟩))))); (case aB => exact (by repeat (first | (with_reducible first | exact HB.out | apply below_alloc | apply pw_below_drewN | apply below_drew1) | exact HB.out))); (case aF => exact (fun k_ hk => (.inr (Nat.le_trans (below_size (by repeat (first | (with_reducible first | exact HB.out | apply below_alloc | apply pw_below_drewN | apply below_drew1) | exact HB.out))) hk)))); (case aO => exact (by (with_reducible repeat (first | apply Kd.N_alloc | apply Kd.N_drewN | apply Kd.N_drew)); exact HO_7.out)); (case aS => exact (below_size (by repeat (first | (with_reducible first | exact HB.out | apply below_alloc | apply pw_below_drewN | apply below_drew1) | exact HB.out)))); (case aL => have := LMc19.out; omega); intro v864 w20 ho hb hg hat; rw [← Ny863.out] at ho; have n0_ := Aside0.mk (Kd.V_afterv (ok := (fun k_ => (P1_ k_ ∨ w.heap.size ≤ k_))) (by (with_reducible repeat (first | apply Kd.V_alloc | apply Kd.V_drewN | apply Kd.V_drew)); exact HO_1.out) hg hat); have n1_ := Aside0.mk (Kd.V_afterv (ok := (fun k_ => (P1_ k_ ∨ w.heap.size ≤ k_))) (by (with_reducible repeat (first | apply Kd.V_alloc | apply Kd.V_drewN | apply Kd.V_drew)); exact HL862_1.out) hg hat); have n2_ := Aside0.mk (Kd.V_afterv (ok := (fun k_ => (P1_ k_ ∨ w.heap.size ≤ k_))) (by (with_reducible repeat (first | apply Kd.V_alloc | apply Kd.V_drewN | apply Kd.V_drew)); exact HL862_3.out) hg hat); have n3_ := Aside0.mk (hb); have n4_ := Aside0.mk (ho); clear HO_1; clear HL862_1; clear HL862_3; clear HB; clear HO_7; have HO_1 := n0_; have HL862_1 := n1_; have HL862_3 := n2_; have HB := n3_; have HO865 := n4_; clear n0_ n1_ n2_ n3_ n4_; clear ho hb hg hat)))
           go_roundg k1
           case measure => have := HK1.out; omega
           case rel => exact ⟨(y863), (wrap64 (x8_1 + 1)), (by first | rfl | (simp; done) | (simp [*]; done)), H', ⟨by have := HK1.out; omega⟩, ⟨by (with_reducible repeat (first | apply Kd.V_alloc | apply Kd.V_drewN | apply Kd.V_drew)); exact HO_1.out⟩, ⟨by (with_reducible repeat (first | apply Kd.N_alloc | apply Kd.N_drewN | apply Kd.N_drew)); exact HO865.out⟩, ⟨by repeat (first | (with_reducible first | exact HB.out | apply below_alloc | apply pw_below_drewN | apply below_drew1) | exact HB.out)⟩⟩
          ·rw [if_neg c19] at H
           exact absurd H (by simp)
         ·rw [if_neg c18] at H
          exact absurd H (by simp)
        ·rw [if_neg c17] at H
         exact absurd H (by simp)
    ·rw [if_neg c5] at H
     exact absurd H (by simp)
   ·rw [if_neg c4] at H
    have c4b0 : decide (x8_1 < (l2.length : Int)) = false := decide_eq_false c4
    clear c4
    replace H := Option.bind_eq_some_iff.mp H
    obtain ⟨⟨t866, t867⟩, A210, H⟩ := H
    replace H : (if t867 = true then (some false) else (tenetref02_Core.l1 k1 a0 x7_1 0)) = some r := H
    have A21 := Aside0.mk A210
    clear A210
    by_cases c22 : t867 = true
    ·subst c22
     have H1 : (some false) = some r := by rw [if_pos rfl] at H; exact H
     clear H
     have H := H1
     clear H1
     obtain rfl := Option.some.inj H
     obtain ⟨Ao23, co23, eo23⟩ := Kd.N_slice HO_7.out
     subst eo23
     go_wp2_with (first | (go_at_call 50; (with_reducible refine (tenetref02_solve.calls k1 a0 _ _ x7_1 t866 true _ ?side1 ?side2 A21.out).mono ?_); (case side1 => repeat (first | exact (Kd.N_reads' HO_7.out).2.2 | (with_reducible refine Kd.C_alloc ?_ _) | (with_reducible refine Kd.C_drewN ?_ _) | (with_reducible refine Kd.C_drew ?_))); (case side2 => exact (Kd.N_reads' HO_7.out).2.1); rintro e w24 ⟨v868, rfl, ho0, hb⟩; have n0_ := Aside0.mk (Kd.V_elder' (by (with_reducible repeat (first | apply Kd.V_alloc | apply Kd.V_drewN | apply Kd.V_drew)); exact HO_1.out) (Kd.R_base ho0) hb); have n1_ := Aside0.mk (Kd.N_elder' (by (with_reducible repeat (first | apply Kd.N_alloc | apply Kd.N_drewN | apply Kd.N_drew)); exact HO_7.out) (Kd.R_base ho0) hb); have n2_ := Aside0.mk (Kd.R_lower (Kd.R_newM (M := fun k_ => (w.heap.size ≤ k_)) ho0 (below_size (by repeat (first | (with_reducible first | exact HB.out | apply below_alloc | apply pw_below_drewN | apply below_drew1) | exact HB.out))) (fun k_ h_ => h_)) (below_size (by repeat (first | (with_reducible first | exact HB.out | apply below_alloc | apply pw_below_drewN | apply below_drew1) | exact HB.out)))); have n3_ := Aside0.mk (below_step (by repeat (first | (with_reducible first | exact HB.out | apply below_alloc | apply pw_below_drewN | apply below_drew1) | exact HB.out)) hb); clear HO_1; clear HO_7; clear HB; have HO_1 := n0_; have HO_7 := n1_; have HO869 := n2_; have HB := n3_; clear n0_ n1_ n2_ n3_; (try clear hb); (try clear hb2); (try clear hk); (try clear hi); (try clear ho0)))
     repeat (go_quiet (first | (go_at_call 50; (with_reducible refine (tenetref02_solve.calls k1 a0 _ _ x7_1 t866 true _ ?side1 ?side2 A21.out).mono ?_); (case side1 => repeat (first | exact (Kd.N_reads' HO_7.out).2.2 | (with_reducible refine Kd.C_alloc ?_ _) | (with_reducible refine Kd.C_drewN ?_ _) | (with_reducible refine Kd.C_drew ?_))); (case side2 => exact (Kd.N_reads' HO_7.out).2.1); rintro e w24 ⟨v868, rfl, ho0, hb⟩; have n0_ := Aside0.mk (Kd.V_elder' (by (with_reducible repeat (first | apply Kd.V_alloc | apply Kd.V_drewN | apply Kd.V_drew)); exact HO_1.out) (Kd.R_base ho0) hb); have n1_ := Aside0.mk (Kd.N_elder' (by (with_reducible repeat (first | apply Kd.N_alloc | apply Kd.N_drewN | apply Kd.N_drew)); exact HO_7.out) (Kd.R_base ho0) hb); have n2_ := Aside0.mk (Kd.R_lower (Kd.R_newM (M := fun k_ => (w.heap.size ≤ k_)) ho0 (below_size (by repeat (first | (with_reducible first | exact HB.out | apply below_alloc | apply pw_below_drewN | apply below_drew1) | exact HB.out))) (fun k_ h_ => h_)) (below_size (by repeat (first | (with_reducible first | exact HB.out | apply below_alloc | apply pw_below_drewN | apply below_drew1) | exact HB.out)))); have n3_ := Aside0.mk (below_step (by repeat (first | (with_reducible first | exact HB.out | apply below_alloc | apply pw_below_drewN | apply below_drew1) | exact HB.out)) hb); clear HO_1; clear HO_7; clear HB; have HO_1 := n0_; have HO_7 := n1_; have HO869 := n2_; have HB := n3_; clear n0_ n1_ n2_ n3_; (try clear hb); (try clear hb2); (try clear hk); (try clear hi); (try clear ho0))); try go_wp2_with (first | (go_at_call 50; (with_reducible refine (tenetref02_solve.calls k1 a0 _ _ x7_1 t866 true _ ?side1 ?side2 A21.out).mono ?_); (case side1 => repeat (first | exact (Kd.N_reads' HO_7.out).2.2 | (with_reducible refine Kd.C_alloc ?_ _) | (with_reducible refine Kd.C_drewN ?_ _) | (with_reducible refine Kd.C_drew ?_))); (case side2 => exact (Kd.N_reads' HO_7.out).2.1); rintro e w24 ⟨v868, rfl, ho0, hb⟩; have n0_ := Aside0.mk (Kd.V_elder' (by (with_reducible repeat (first | apply Kd.V_alloc | apply Kd.V_drewN | apply Kd.V_drew)); exact HO_1.out) (Kd.R_base ho0) hb); have n1_ := Aside0.mk (Kd.N_elder' (by (with_reducible repeat (first | apply Kd.N_alloc | apply Kd.N_drewN | apply Kd.N_drew)); exact HO_7.out) (Kd.R_base ho0) hb); have n2_ := Aside0.mk (Kd.R_lower (Kd.R_newM (M := fun k_ => (w.heap.size ≤ k_)) ho0 (below_size (by repeat (first | (with_reducible first | exact HB.out | apply below_alloc | apply pw_below_drewN | apply below_drew1) | exact HB.out))) (fun k_ h_ => h_)) (below_size (by repeat (first | (with_reducible first | exact HB.out | apply below_alloc | apply pw_below_drewN | apply below_drew1) | exact HB.out)))); have n3_ := Aside0.mk (below_step (by repeat (first | (with_reducible first | exact HB.out | apply below_alloc | apply pw_below_drewN | apply below_drew1) | exact HB.out)) hb); clear HO_1; clear HO_7; clear HB; have HO_1 := n0_; have HO_7 := n1_; have HO869 := n2_; have HB := n3_; clear n0_ n1_ n2_ n3_; (try clear hb); (try clear hb2); (try clear hk); (try clear hi); (try clear ho0))))
     go_ret
     exact ⟨by first | rfl | (simp [errW_none, errW_some] <;> rfl) | (simp [*, errW_none, errW_some] <;> rfl), by repeat (first | (with_reducible first | exact HB.out | apply below_alloc | apply pw_below_drewN | apply below_drew1) | exact HB.out)⟩
    ·replace c22 := Bool.eq_false_iff.mpr c22
     subst c22
     have H1 : (tenetref02_Core.l1 k1 a0 x7_1 0) = some r := by rw [if_neg (show ¬ (false = true) by decide)] at H; exact H
     clear H
     have H := H1
     clear H1
     have H' := Aside0.mk H
     clear H
     obtain ⟨Ao25, co25, eo25⟩ := Kd.N_slice HO_7.out
     subst eo25
     go_wp2_with (first | (go_at_call 50; (with_reducible refine (tenetref02_solve.calls k1 a0 _ _ x7_1 t866 false _ ?side1 ?side2 A21.out).mono ?_); (case side1 => repeat (first | exact (Kd.N_reads' HO_7.out).2.2 | (with_reducible refine Kd.C_alloc ?_ _) | (with_reducible refine Kd.C_drewN ?_ _) | (with_reducible refine Kd.C_drew ?_))); (case side2 => exact (Kd.N_reads' HO_7.out).2.1); rintro e w26 ⟨v868, rfl, ho0, hb⟩; have n0_ := Aside0.mk (Kd.V_elder' (by (with_reducible repeat (first | apply Kd.V_alloc | apply Kd.V_drewN | apply Kd.V_drew)); exact HO_1.out) (Kd.R_base ho0) hb); have n1_ := Aside0.mk (Kd.N_elder' (by (with_reducible repeat (first | apply Kd.N_alloc | apply Kd.N_drewN | apply Kd.N_drew)); exact HO_7.out) (Kd.R_base ho0) hb); have n2_ := Aside0.mk (Kd.R_lower (Kd.R_newM (M := fun k_ => (w.heap.size ≤ k_)) ho0 (below_size (by repeat (first | (with_reducible first | exact HB.out | apply below_alloc | apply pw_below_drewN | apply below_drew1) | exact HB.out))) (fun k_ h_ => h_)) (below_size (by repeat (first | (with_reducible first | exact HB.out | apply below_alloc | apply pw_below_drewN | apply below_drew1) | exact HB.out)))); have n3_ := Aside0.mk (below_step (by repeat (first | (with_reducible first | exact HB.out | apply below_alloc | apply pw_below_drewN | apply below_drew1) | exact HB.out)) hb); clear HO_1; clear HO_7; clear HB; have HO_1 := n0_; have HO_7 := n1_; have HO869 := n2_; have HB := n3_; clear n0_ n1_ n2_ n3_; (try clear hb); (try clear hb2); (try clear hk); (try clear hi); (try clear ho0)))
     repeat (go_quiet (first | (go_at_call 50; (with_reducible refine (tenetref02_solve.calls k1 a0 _ _ x7_1 t866 false _ ?side1 ?side2 A21.out).mono ?_); (case side1 => repeat (first | exact (Kd.N_reads' HO_7.out).2.2 | (with_reducible refine Kd.C_alloc ?_ _) | (with_reducible refine Kd.C_drewN ?_ _) | (with_reducible refine Kd.C_drew ?_))); (case side2 => exact (Kd.N_reads' HO_7.out).2.1); rintro e w26 ⟨v868, rfl, ho0, hb⟩; have n0_ := Aside0.mk (Kd.V_elder' (by (with_reducible repeat (first | apply Kd.V_alloc | apply Kd.V_drewN | apply Kd.V_drew)); exact HO_1.out) (Kd.R_base ho0) hb); have n1_ := Aside0.mk (Kd.N_elder' (by (with_reducible repeat (first | apply Kd.N_alloc | apply Kd.N_drewN | apply Kd.N_drew)); exact HO_7.out) (Kd.R_base ho0) hb); have n2_ := Aside0.mk (Kd.R_lower (Kd.R_newM (M := fun k_ => (w.heap.size ≤ k_)) ho0 (below_size (by repeat (first | (with_reducible first | exact HB.out | apply below_alloc | apply pw_below_drewN | apply below_drew1) | exact HB.out))) (fun k_ h_ => h_)) (below_size (by repeat (first | (with_reducible first | exact HB.out | apply below_alloc | apply pw_below_drewN | apply below_drew1) | exact HB.out)))); have n3_ := Aside0.mk (below_step (by repeat (first | (with_reducible first | exact HB.out | apply below_alloc | apply pw_below_drewN | apply below_drew1) | exact HB.out)) hb); clear HO_1; clear HO_7; clear HB; have HO_1 := n0_; have HO_7 := n1_; have HO869 := n2_; have HB := n3_; clear n0_ n1_ n2_ n3_; (try clear hb); (try clear hb2); (try clear hk); (try clear hi); (try clear ho0))); try go_wp2_with (first | (go_at_call 50; (with_reducible refine (tenetref02_solve.calls k1 a0 _ _ x7_1 t866 false _ ?side1 ?side2 A21.out).mono ?_); (case side1 => repeat (first | exact (Kd.N_reads' HO_7.out).2.2 | (with_reducible refine Kd.C_alloc ?_ _) | (with_reducible refine Kd.C_drewN ?_ _) | (with_reducible refine Kd.C_drew ?_))); (case side2 => exact (Kd.N_reads' HO_7.out).2.1); rintro e w26 ⟨v868, rfl, ho0, hb⟩; have n0_ := Aside0.mk (Kd.V_elder' (by (with_reducible repeat (first | apply Kd.V_alloc | apply Kd.V_drewN | apply Kd.V_drew)); exact HO_1.out) (Kd.R_base ho0) hb); have n1_ := Aside0.mk (Kd.N_elder' (by (with_reducible repeat (first | apply Kd.N_alloc | apply Kd.N_drewN | apply Kd.N_drew)); exact HO_7.out) (Kd.R_base ho0) hb); have n2_ := Aside0.mk (Kd.R_lower (Kd.R_newM (M := fun k_ => (w.heap.size ≤ k_)) ho0 (below_size (by repeat (first | (with_reducible first | exact HB.out | apply below_alloc | apply pw_below_drewN | apply below_drew1) | exact HB.out))) (fun k_ h_ => h_)) (below_size (by repeat (first | (with_reducible first | exact HB.out | apply below_alloc | apply pw_below_drewN | apply below_drew1) | exact HB.out)))); have n3_ := Aside0.mk (below_step (by repeat (first | (with_reducible first | exact HB.out | apply below_alloc | apply pw_below_drewN | apply below_drew1) | exact HB.out)) hb); clear HO_1; clear HO_7; clear HB; have HO_1 := n0_; have HO_7 := n1_; have HO869 := n2_; have HB := n3_; clear n0_ n1_ n2_ n3_; (try clear hb); (try clear hb2); (try clear hk); (try clear hi); (try clear ho0))))
     go_loopg [11] k1 (fun kq v11 w' => ∃ (x11_2 : Int), v11 = .int .i64 x11_2 ∧ Aside0 (tenetref02_Core.l1 kq a0 x7_1 x11_2 = some r) ∧ Aside0 (kq ≤ k1) ∧ Aside0 (Kd.N k44 44 w' w.heap.size (fun k_ => (P1_ k_ ∨ w.heap.size ≤ k_)) (.slice Ao25 x7_1.length co25) x7_1) ∧ Aside0 (Below w.heap.size w w'))
     case atStart => exact ⟨(0), (by first | rfl | (simp; done) | (simp [*]; done)), H', ⟨Nat.le_refl _⟩, ⟨by (with_reducible repeat (first | apply Kd.N_alloc | apply Kd.N_drewN | apply Kd.N_drew)); exact Kd.N_mono HO_7.out (fun _ hk => hk.1)⟩, ⟨by repeat (first | (with_reducible first | exact HB.out | apply below_alloc | apply pw_below_drewN | apply below_drew1) | exact HB.out)⟩⟩
     case round =>
      clear H'
      try clear c1
      try clear c2
      try clear p2
      try clear c4
      try clear c4b0
      try clear c5
      try clear c5b0
      try clear c6
      try clear c6b0
      try clear p6
      try clear c7
      try clear c7b0
      try clear c8
      try clear c8b0
      try clear p8
      try clear q8
      try clear hx8
      try clear c10
      try clear c10b0
      try clear c11
      try clear c11b0
      try clear c12
      try clear c12b0
      try clear c13
      try clear c13b0
      try clear c14
      try clear c14b0
      try clear c15
      try clear c17
      try clear c17b0
      try clear c18
      try clear c18b0
      try clear c19
      try clear c22
      try clear hx852_0
      try clear hx853_0
      try clear hx854_0
      try clear hx855_0
      try clear hx856_0
      try clear hx857_0
      try clear hx857_1
      try clear hx857_2
      try clear hx857_3
      try clear hx861_0
      try clear hx862_0
      try clear hx862_1
      try clear hx862_2
      try clear hx862_3
      try clear p2
      try clear p852
      try clear p853
      try clear p854
      try clear p855
      try clear p856
      try clear p857
      try clear p861
      try clear p862
      try clear q852
      try clear q853
      try clear q854
      try clear q855
      try clear q856
      try clear q857
      try clear q861
      try clear q862
      obtain ⟨x11_2, rfl, HA, HK2, HO_7, HB⟩ := hrel
      cases gk with
      | zero => exact absurd HA.out (by simp [tenetref02_Core.l1])
      | succ k2 =>
       have H := HA.out
       clear HA
       simp only [tenetref02_Core.l1] at H
       by_cases c27 : x11_2 < (x7_1.length : Int)
       ·rw [if_pos c27] at H
        have c27b0 : decide (x11_2 < (x7_1.length : Int)) = true := decide_eq_true c27
        clear c27
        replace H := Option.bind_eq_some_iff.mp H
        obtain ⟨t870, A280, H⟩ := H
        replace H : ((tenetref02_solve.f k2 a0 t870).bind fun bt873 => (if bt873.2 = true then (tenetref02_Core.l1 k2 a0 x7_1 (wrap64 (x11_2 + 1))) else (some false))) = some r := H
        have A28 := Aside0.mk A280
        clear A280
        replace H := Option.bind_eq_some_iff.mp H
        obtain ⟨⟨t873, t874⟩, A290, H⟩ := H
        replace H : (if t874 = true then (tenetref02_Core.l1 k2 a0 x7_1 (wrap64 (x11_2 + 1))) else (some false)) = some r := H
        have A29 := Aside0.mk A290
        clear A290
        by_cases c30 : t874 = true
        ·subst c30
         have H1 : (tenetref02_Core.l1 k2 a0 x7_1 (wrap64 (x11_2 + 1))) = some r := by rw [if_pos rfl] at H; exact H
         clear H
         have H := H1
         clear H1
         have H' := Aside0.mk H
         clear H
         go_wp2_with (first | (go_at_call 83; (with_reducible refine (tenetref02_without.calls k2 (fun k_ => (P1_ k_ ∨ w.heap.size ≤ k_)) _ _ x7_1 x11_2 t870 _ ?side1 A28.out).mono ?_); (case side1 => exact Kd.N_V (HO_7.out)); rintro e w31 ⟨v871, rfl, ho0, hb⟩; have n0_ := Aside0.mk (Kd.N_elder' (by (with_reducible repeat (first | apply Kd.N_alloc | apply Kd.N_drewN | apply Kd.N_drew)); exact HO_7.out) (Kd.N_base ho0) hb); have n1_ := Aside0.mk (Kd.N_lower (Kd.N_mono (ok' := fun k_ => (P1_ k_ ∨ w.heap.size ≤ k_)) ho0 (fun k_ hk_ => Or.elim hk_ (fun hs_ => hs_) (fun hn_ => (.inr (Nat.le_trans (below_size (by repeat (first | (with_reducible first | exact HB.out | apply below_alloc | apply pw_below_drewN | apply below_drew1) | exact HB.out))) hn_))))) (below_size (by repeat (first | (with_reducible first | exact HB.out | apply below_alloc | apply pw_below_drewN | apply below_drew1) | exact HB.out)))); have n2_ := Aside0.mk (below_step (by repeat (first | (with_reducible first | exact HB.out | apply below_alloc | apply pw_below_drewN | apply below_drew1) | exact HB.out)) hb); clear HO_7; clear HB; have HO_7 := n0_; have HO872 := n1_; have HB := n2_; clear n0_ n1_ n2_; (try clear hb); (try clear hb2); (try clear hk); (try clear hi); (try clear ho0); obtain ⟨Ao32, co32, eo32⟩ := Kd.N_slice HO872.out; subst eo32) | (go_at_call 50; (with_reducible refine (tenetref02_solve.calls k2 a0 _ _ t870 t873 true _ ?side1 ?side2 A29.out).mono ?_); (case side1 => repeat (first | exact (Kd.N_reads' HO872.out).2.2 | (with_reducible refine Kd.C_alloc ?_ _) | (with_reducible refine Kd.C_drewN ?_ _) | (with_reducible refine Kd.C_drew ?_))); (case side2 => exact (Kd.N_reads' HO872.out).2.1); rintro e w33 ⟨v875, rfl, ho0, hb⟩; have n0_ := Aside0.mk (Kd.N_elder' (by (with_reducible repeat (first | apply Kd.N_alloc | apply Kd.N_drewN | apply Kd.N_drew)); exact HO_7.out) (Kd.R_base ho0) hb); have n1_ := Aside0.mk (Kd.N_elder' (by (with_reducible repeat (first | apply Kd.N_alloc | apply Kd.N_drewN | apply Kd.N_drew)); exact HO872.out) (Kd.R_base ho0) hb); have n2_ := Aside0.mk (Kd.R_lower (Kd.R_newM (M := fun k_ => (w.heap.size ≤ k_)) ho0 (below_size (by repeat (first | (with_reducible first | exact HB.out | apply below_alloc | apply pw_below_drewN | apply below_drew1) | exact HB.out))) (fun k_ h_ => h_)) (below_size (by repeat (first | (with_reducible first | exact HB.out | apply below_alloc | apply pw_below_drewN | apply below_drew1) | exact HB.out)))); have n3_ := Aside0.mk (below_step (by repeat (first | (with_reducible first | exact HB.out | apply below_alloc | apply pw_below_drewN | apply below_drew1) | exact HB.out)) hb); clear HO_7; clear HO872; clear HB; have HO_7 := n0_; have HO872 := n1_; have HO876 := n2_; have HB := n3_; clear n0_ n1_ n2_ n3_; (try clear hb); (try clear hb2); (try clear hk); (try clear hi); (try clear ho0)))
         repeat (go_quiet (first | (go_at_call 83; (with_reducible refine (tenetref02_without.calls k2 (fun k_ => (P1_ k_ ∨ w.heap.size ≤ k_)) _ _ x7_1 x11_2 t870 _ ?side1 A28.out).mono ?_); (case side1 => exact Kd.N_V (HO_7.out)); rintro e w31 ⟨v871, rfl, ho0, hb⟩; have n0_ := Aside0.mk (Kd.N_elder' (by (with_reducible repeat (first | apply Kd.N_alloc | apply Kd.N_drewN | apply Kd.N_drew)); exact HO_7.out) (Kd.N_base ho0) hb); have n1_ := Aside0.mk (Kd.N_lower (Kd.N_mono (ok' := fun k_ => (P1_ k_ ∨ w.heap.size ≤ k_)) ho0 (fun k_ hk_ => Or.elim hk_ (fun hs_ => hs_) (fun hn_ => (.inr (Nat.le_trans (below_size (by repeat (first | (with_reducible first | exact HB.out | apply below_alloc | apply pw_below_drewN | apply below_drew1) | exact HB.out))) hn_))))) (below_size (by repeat (first | (with_reducible first | exact HB.out | apply below_alloc | apply pw_below_drewN | apply below_drew1) | exact HB.out)))); have n2_ := Aside0.mk (below_step (by repeat (first | (with_reducible first | exact HB.out | apply below_alloc | apply pw_below_drewN | apply below_drew1) | exact HB.out)) hb); clear HO_7; clear HB; have HO_7 := n0_; have HO872 := n1_; have HB := n2_; clear n0_ n1_ n2_; (try clear hb); (try clear hb2); (try clear hk); (try clear hi); (try clear ho0); obtain ⟨Ao32, co32, eo32⟩ := Kd.N_slice HO872.out; subst eo32) | (go_at_call 50; (with_reducible refine (tenetref02_solve.calls k2 a0 _ _ t870 t873 true _ ?side1 ?side2 A29.out).mono ?_); (case side1 => repeat (first | exact (Kd.N_reads' HO872.out).2.2 | (with_reducible refine Kd.C_alloc ?_ _) | (with_reducible refine Kd.C_drewN ?_ _) | (with_reducible refine Kd.C_drew ?_))); (case side2 => exact (Kd.N_reads' HO872.out).2.1); rintro e w33 ⟨v875, rfl, ho0, hb⟩; have n0_ := Aside0.mk (Kd.N_elder' (by (with_reducible repeat (first | apply Kd.N_alloc | apply Kd.N_drewN | apply Kd.N_drew)); exact HO_7.out) (Kd.R_base ho0) hb); have n1_ := Aside0.mk (Kd.N_elder' (by (with_reducible repeat (first | apply Kd.N_alloc | apply Kd.N_drewN | apply Kd.N_drew)); exact HO872.out) (Kd.R_base ho0) hb); have n2_ := Aside0.mk (Kd.R_lower (Kd.R_newM (M := fun k_ => (w.heap.size ≤ k_)) ho0 (below_size (by repeat (first | (with_reducible first | exact HB.out | apply below_alloc | apply pw_below_drewN | apply below_drew1) | exact HB.out))) (fun k_ h_ => h_)) (below_size (by repeat (first | (with_reducible first | exact HB.out | apply below_alloc | apply pw_below_drewN | apply below_drew1) | exact HB.out)))); have n3_ := Aside0.mk (below_step (by repeat (first | (with_reducible first | exact HB.out | apply below_alloc | apply pw_below_drewN | apply below_drew1) | exact HB.out)) hb); clear HO_7; clear HO872; clear HB; have HO_7 := n0_; have HO872 := n1_; have HO876 := n2_; have HB := n3_; clear n0_ n1_ n2_ n3_; (try clear hb); (try clear hb2); (try clear hk); (try clear hi); (try clear ho0))); try go_wp2_with (first | (go_at_call 83; (with_reducible refine (tenetref02_without.calls k2 (fun k_ => (P1_ k_ ∨ w.heap.size ≤ k_)) _ _ x7_1 x11_2 t870 _ ?side1 A28.out).mono ?_); (case side1 => exact Kd.N_V (HO_7.out)); rintro e w31 ⟨v871, rfl, ho0, hb⟩; have n0_ := Aside0.mk (Kd.N_elder' (by (with_reducible repeat (first | apply Kd.N_alloc | apply Kd.N_drewN | apply Kd.N_drew)); exact HO_7.out) (Kd.N_base ho0) hb); have n1_ := Aside0.mk (Kd.N_lower (Kd.N_mono (ok' := fun k_ => (P1_ k_ ∨ w.heap.size ≤ k_)) ho0 (fun k_ hk_ => Or.elim hk_ (fun hs_ => hs_) (fun hn_ => (.inr (Nat.le_trans (below_size (by repeat (first | (with_reducible first | exact HB.out | apply below_alloc | apply pw_below_drewN | apply below_drew1) | exact HB.out))) hn_))))) (below_size (by repeat (first | (with_reducible first | exact HB.out | apply below_alloc | apply pw_below_drewN | apply below_drew1) | exact HB.out)))); have n2_ := Aside0.mk (below_step (by repeat (first | (with_reducible first | exact HB.out | apply below_alloc | apply pw_below_drewN | apply below_drew1) | exact HB.out)) hb); clear HO_7; clear HB; have HO_7 := n0_; have HO872 := n1_; have HB := n2_; clear n0_ n1_ n2_; (try clear hb); (try clear hb2); (try clear hk); (try clear hi); (try clear ho0); obtain ⟨Ao32, co32, eo32⟩ := Kd.N_slice HO872.out; subst eo32) | (go_at_call 50; (with_reducible refine (tenetref02_solve.calls k2 a0 _ _ t870 t873 true _ ?side1 ?side2 A29.out).mono ?_); (case side1 => repeat (first | exact (Kd.N_reads' HO872.out).2.2 | (with_reducible refine Kd.C_alloc ?_ _) | (with_reducible refine Kd.C_drewN ?_ _) | (with_reducible refine Kd.C_drew ?_))); (case side2 => exact (Kd.N_reads' HO872.out).2.1); rintro e w33 ⟨v875, rfl, ho0, hb⟩; have n0_ := Aside0.mk (Kd.N_elder' (by (with_reducible repeat (first | apply Kd.N_alloc | apply Kd.N_drewN | apply Kd.N_drew)); exact HO_7.out) (Kd.R_base ho0) hb); have n1_ := Aside0.mk (Kd.N_elder' (by (with_reducible repeat (first | apply Kd.N_alloc | apply Kd.N_drewN | apply Kd.N_drew)); exact HO872.out) (Kd.R_base ho0) hb); have n2_ := Aside0.mk (Kd.R_lower (Kd.R_newM (M := fun k_ => (w.heap.size ≤ k_)) ho0 (below_size (by repeat (first | (with_reducible first | exact HB.out | apply below_alloc | apply pw_below_drewN | apply below_drew1) | exact HB.out))) (fun k_ h_ => h_)) (below_size (by repeat (first | (with_reducible first | exact HB.out | apply below_alloc | apply pw_below_drewN | apply below_drew1) | exact HB.out)))); have n3_ := Aside0.mk (below_step (by repeat (first | (with_reducible first | exact HB.out | apply below_alloc | apply pw_below_drewN | apply below_drew1) | exact HB.out)) hb); clear HO_7; clear HO872; clear HB; have HO_7 := n0_; have HO872 := n1_; have HO876 := n2_; have HB := n3_; clear n0_ n1_ n2_ n3_; (try clear hb); (try clear hb2); (try clear hk); (try clear hi); (try clear ho0))))
         go_roundg k2
         case measure => have := HK1.out; have := HK2.out; omega
         case rel => exact ⟨(wrap64 (x11_2 + 1)), (by first | rfl | (simp; done) | (simp [*]; done)), H', ⟨by have := HK1.out; have := HK2.out; omega⟩, ⟨by (with_reducible repeat (first | apply Kd.N_alloc | apply Kd.N_drewN | apply Kd.N_drew)); exact Kd.N_mono HO_7.out (fun _ hk => hk.1.1)⟩, ⟨by repeat (first | (with_reducible first | exact HB.out | apply below_alloc | apply pw_below_drewN | apply below_drew1) | exact HB.out)⟩⟩
        ·replace c30 := Bool.eq_false_iff.mpr c30
         subst c30
         have H1 : (some false) = some r := by rw [if_neg (show ¬ (false = true) by decide)] at H; exact H
         clear H
         have H := H1
         clear H1
         obtain rfl := Option.some.inj H
         go_wp2_with (first | (go_at_call 83; (with_reducible refine (tenetref02_without.calls k2 (fun k_ => (P1_ k_ ∨ w.heap.size ≤ k_)) _ _ x7_1 x11_2 t870 _ ?side1 A28.out).mono ?_); (case side1 => exact Kd.N_V (HO_7.out)); rintro e w34 ⟨v871, rfl, ho0, hb⟩; have n0_ := Aside0.mk (Kd.N_elder' (by (with_reducible repeat (first | apply Kd.N_alloc | apply Kd.N_drewN | apply Kd.N_drew)); exact HO_7.out) (Kd.N_base ho0) hb); have n1_ := Aside0.mk (Kd.N_lower (Kd.N_mono (ok' := fun k_ => (P1_ k_ ∨ w.heap.size ≤ k_)) ho0 (fun k_ hk_ => Or.elim hk_ (fun hs_ => hs_) (fun hn_ => (.inr (Nat.le_trans (below_size (by repeat (first | (with_reducible first | exact HB.out | apply below_alloc | apply pw_below_drewN | apply below_drew1) | exact HB.out))) hn_))))) (below_size (by repeat (first | (with_reducible first | exact HB.out | apply below_alloc | apply pw_below_drewN | apply below_drew1) | exact HB.out)))); have n2_ := Aside0.mk (below_step (by repeat (first | (with_reducible first | exact HB.out | apply below_alloc | apply pw_below_drewN | apply below_drew1) | exact HB.out)) hb); clear HO_7; clear HB; have HO_7 := n0_; have HO872 := n1_; have HB := n2_; clear n0_ n1_ n2_; (try clear hb); (try clear hb2); (try clear hk); (try clear hi); (try clear ho0); obtain ⟨Ao35, co35, eo35⟩ := Kd.N_slice HO872.out; subst eo35) | (go_at_call 50; (with_reducible refine (tenetref02_solve.calls k2 a0 _ _ t870 t873 false _ ?side1 ?side2 A29.out).mono ?_); (case side1 => repeat (first | exact (Kd.N_reads' HO872.out).2.2 | (with_reducible refine Kd.C_alloc ?_ _) | (with_reducible refine Kd.C_drewN ?_ _) | (with_reducible refine Kd.C_drew ?_))); (case side2 => exact (Kd.N_reads' HO872.out).2.1); rintro e w36 ⟨v875, rfl, ho0, hb⟩; have n0_ := Aside0.mk (Kd.N_elder' (by (with_reducible repeat (first | apply Kd.N_alloc | apply Kd.N_drewN | apply Kd.N_drew)); exact HO_7.out) (Kd.R_base ho0) hb); have n1_ := Aside0.mk (Kd.N_elder' (by (with_reducible repeat (first | apply Kd.N_alloc | apply Kd.N_drewN | apply Kd.N_drew)); exact HO872.out) (Kd.R_base ho0) hb); have n2_ := Aside0.mk (Kd.R_lower (Kd.R_newM (M := fun k_ => (w.heap.size ≤ k_)) ho0 (below_size (by repeat (first | (with_reducible first | exact HB.out | apply below_alloc | apply pw_below_drewN | apply below_drew1) | exact HB.out))) (fun k_ h_ => h_)) (below_size (by repeat (first | (with_reducible first | exact HB.out | apply below_alloc | apply pw_below_drewN | apply below_drew1) | exact HB.out)))); have n3_ := Aside0.mk (below_step (by repeat (first | (with_reducible first | exact HB.out | apply below_alloc | apply pw_below_drewN | apply below_drew1) | exact HB.out)) hb); clear HO_7; clear HO872; clear HB; have HO_7 := n0_; have HO872 := n1_; have HO876 := n2_; have HB := n3_; clear n0_ n1_ n2_ n3_; (try clear hb); (try clear hb2); (try clear hk); (try clear hi); (try clear ho0)))
         repeat (go_quiet (first | (go_at_call 83; (with_reducible refine (tenetref02_without.calls k2 (fun k_ => (P1_ k_ ∨ w.heap.size ≤ k_)) _ _ x7_1 x11_2 t870 _ ?side1 A28.out).mono ?_); (case side1 => exact Kd.N_V (HO_7.out)); rintro e w34 ⟨v871, rfl, ho0, hb⟩; have n0_ := Aside0.mk (Kd.N_elder' (by (with_reducible repeat (first | apply Kd.N_alloc | apply Kd.N_drewN | apply Kd.N_drew)); exact HO_7.out) (Kd.N_base ho0) hb); have n1_ := Aside0.mk (Kd.N_lower (Kd.N_mono (ok' := fun k_ => (P1_ k_ ∨ w.heap.size ≤ k_)) ho0 (fun k_ hk_ => Or.elim hk_ (fun hs_ => hs_) (fun hn_ => (.inr (Nat.le_trans (below_size (by repeat (first | (with_reducible first | exact HB.out | apply below_alloc | apply pw_below_drewN | apply below_drew1) | exact HB.out))) hn_))))) (below_size (by repeat (first | (with_reducible first | exact HB.out | apply below_alloc | apply pw_below_drewN | apply below_drew1) | exact HB.out)))); have n2_ := Aside0.mk (below_step (by repeat (first | (with_reducible first | exact HB.out | apply below_alloc | apply pw_below_drewN | apply below_drew1) | exact HB.out)) hb); clear HO_7; clear HB; have HO_7 := n0_; have HO872 := n1_; have HB := n2_; clear n0_ n1_ n2_; (try clear hb); (try clear hb2); (try clear hk); (try clear hi); (try clear ho0); obtain ⟨Ao35, co35, eo35⟩ := Kd.N_slice HO872.out; subst eo35) | (go_at_call 50; (with_reducible refine (tenetref02_solve.calls k2 a0 _ _ t870 t873 false _ ?side1 ?side2 A29.out).mono ?_); (case side1 => repeat (first | exact (Kd.N_reads' HO872.out).2.2 | (with_reducible refine Kd.C_alloc ?_ _) | (with_reducible refine Kd.C_drewN ?_ _) | (with_reducible refine Kd.C_drew ?_))); (case side2 => exact (Kd.N_reads' HO872.out).2.1); rintro e w36 ⟨v875, rfl, ho0, hb⟩; have n0_ := Aside0.mk (Kd.N_elder' (by (with_reducible repeat (first | apply Kd.N_alloc | apply Kd.N_drewN | apply Kd.N_drew)); exact HO_7.out) (Kd.R_base ho0) hb); have n1_ := Aside0.mk (Kd.N_elder' (by (with_reducible repeat (first | apply Kd.N_alloc | apply Kd.N_drewN | apply Kd.N_drew)); exact HO872.out) (Kd.R_base ho0) hb); have n2_ := Aside0.mk (Kd.R_lower (Kd.R_newM (M := fun k_ => (w.heap.size ≤ k_)) ho0 (below_size (by repeat (first | (with_reducible first | exact HB.out | apply below_alloc | apply pw_below_drewN | apply below_drew1) | exact HB.out))) (fun k_ h_ => h_)) (below_size (by repeat (first | (with_reducible first | exact HB.out | apply below_alloc | apply pw_below_drewN | apply below_drew1) | exact HB.out)))); have n3_ := Aside0.mk (below_step (by repeat (first | (with_reducible first | exact HB.out | apply below_alloc | apply pw_below_drewN | apply below_drew1) | exact HB.out)) hb); clear HO_7; clear HO872; clear HB; have HO_7 := n0_; have HO872 := n1_; have HO876 := n2_; have HB := n3_; clear n0_ n1_ n2_ n3_; (try clear hb); (try clear hb2); (try clear hk); (try clear hi); (try clear ho0))); try go_wp2_with (first | (go_at_call 83; (with_reducible refine (tenetref02_without.calls k2 (fun k_ => (P1_ k_ ∨ w.heap.size ≤ k_)) _ _ x7_1 x11_2 t870 _ ?side1 A28.out).mono ?_); (case side1 => exact Kd.N_V (HO_7.out)); rintro e w34 ⟨v871, rfl, ho0, hb⟩; have n0_ := Aside0.mk (Kd.N_elder' (by (with_reducible repeat (first | apply Kd.N_alloc | apply Kd.N_drewN | apply Kd.N_drew)); exact HO_7.out) (Kd.N_base ho0) hb); have n1_ := Aside0.mk (Kd.N_lower (Kd.N_mono (ok' := fun k_ => (P1_ k_ ∨ w.heap.size ≤ k_)) ho0 (fun k_ hk_ => Or.elim hk_ (fun hs_ => hs_) (fun hn_ => (.inr (Nat.le_trans (below_size (by repeat (first | (with_reducible first | exact HB.out | apply below_alloc | apply pw_below_drewN | apply below_drew1) | exact HB.out))) hn_))))) (below_size (by repeat (first | (with_reducible first | exact HB.out | apply below_alloc | apply pw_below_drewN | apply below_drew1) | exact HB.out)))); have n2_ := Aside0.mk (below_step (by repeat (first | (with_reducible first | exact HB.out | apply below_alloc | apply pw_below_drewN | apply below_drew1) | exact HB.out)) hb); clear HO_7; clear HB; have HO_7 := n0_; have HO872 := n1_; have HB := n2_; clear n0_ n1_ n2_; (try clear hb); (try clear hb2); (try clear hk); (try clear hi); (try clear ho0); obtain ⟨Ao35, co35, eo35⟩ := Kd.N_slice HO872.out; subst eo35) | (go_at_call 50; (with_reducible refine (tenetref02_solve.calls k2 a0 _ _ t870 t873 false _ ?side1 ?side2 A29.out).mono ?_); (case side1 => repeat (first | exact (Kd.N_reads' HO872.out).2.2 | (with_reducible refine Kd.C_alloc ?_ _) | (with_reducible refine Kd.C_drewN ?_ _) | (with_reducible refine Kd.C_drew ?_))); (case side2 => exact (Kd.N_reads' HO872.out).2.1); rintro e w36 ⟨v875, rfl, ho0, hb⟩; have n0_ := Aside0.mk (Kd.N_elder' (by (with_reducible repeat (first | apply Kd.N_alloc | apply Kd.N_drewN | apply Kd.N_drew)); exact HO_7.out) (Kd.R_base ho0) hb); have n1_ := Aside0.mk (Kd.N_elder' (by (with_reducible repeat (first | apply Kd.N_alloc | apply Kd.N_drewN | apply Kd.N_drew)); exact HO872.out) (Kd.R_base ho0) hb); have n2_ := Aside0.mk (Kd.R_lower (Kd.R_newM (M := fun k_ => (w.heap.size ≤ k_)) ho0 (below_size (by repeat (first | (with_reducible first | exact HB.out | apply below_alloc | apply pw_below_drewN | apply below_drew1) | exact HB.out))) (fun k_ h_ => h_)) (below_size (by repeat (first | (with_reducible first | exact HB.out | apply below_alloc | apply pw_below_drewN | apply below_drew1) | exact HB.out)))); have n3_ := Aside0.mk (below_step (by repeat (first | (with_reducible first | exact HB.out | apply below_alloc | apply pw_below_drewN | apply below_drew1) | exact HB.out)) hb); clear HO_7; clear HO872; clear HB; have HO_7 := n0_; have HO872 := n1_; have HO876 := n2_; have HB := n3_; clear n0_ n1_ n2_ n3_; (try clear hb); (try clear hb2); (try clear hk); (try clear hi); (try clear ho0))))
         go_ret
         exact ⟨by first | rfl | (simp [errW_none, errW_some] <;> rfl) | (simp [*, errW_none, errW_some] <;> rfl), by repeat (first | (with_reducible first | exact HB.out | apply below_alloc | apply pw_below_drewN | apply below_drew1) | exact HB.out)⟩
       ·rw [if_neg c27] at H
        have c27b0 : decide (x11_2 < (x7_1.length : Int)) = false := decide_eq_false c27
        clear c27
        obtain rfl := Option.some.inj H
        go_wp2
        repeat (go_quiet (fail); try go_wp2)
        go_ret
        exact ⟨by first | rfl | (simp [errW_none, errW_some] <;> rfl) | (simp [*, errW_none, errW_some] <;> rfl), by repeat (first | (with_reducible first | exact HB.out | apply below_alloc | apply pw_below_drewN | apply below_drew1) | exact HB.out)⟩
def tenetlaw02_GraphExplains.j0 : Nat → Int → List (S44) → List Int → Bool → Bool → Option (Bool)
 | 0, _, _, _, _, _ => none
 | k + 1, x0, x1, x5, x6, x52 => if x52 = true then (some false) else (if x6 = true then ((tenetref02_Core.f k x0 x1 x5).bind fun t890 => (if t890 = true then ((tenetlaw02_awake.f k).bind fun t891 => (some t891)) else (some false))) else (if (x5.length : Int) = 0 then ((tenetlaw02_awake.f k).bind fun t892 => (some t892)) else (some false)))
def tenetlaw02_GraphExplains.f (k : Nat) (a0 : Int) (l1 : List (S44)) : Option (Bool) := (tenetlaw02_heavy.f k a0 l1 60).bind fun t877 => (if t877 = true then ((tenetlaw02_awake.f k).bind fun t878 => (some t878)) else ((graph_Explain.f k a0 l1).bind fun bt879 => ((tenetref02_Valid.f k a0 l1).bind fun t884 => (if t884 = true then ((tenetref02_Solve.f k a0 l1).bind fun bt886 => (if bt879.2.2 = 0 then (tenetlaw02_GraphExplains.j0 k a0 l1 bt879.1 bt879.2.1 (bt879.2.1 != (bt886.2 == 20))) else (tenetlaw02_GraphExplains.j0 k a0 l1 bt879.1 bt879.2.1 true))) else (if bt879.2.2 = 4 then (if (bt879.1.length : Int) = 0 then (if bt879.2.1 = true then (some false) else ((tenetlaw02_awake.f k).bind fun t885 => (some t885))) else (some false)) else (some false))))))
theorem tenetlaw02_GraphExplains.mono_l : ∀ k, (∀ y0 y1 y2 y3 y4, LeO (tenetlaw02_GraphExplains.j0 k y0 y1 y2 y3 y4) (tenetlaw02_GraphExplains.j0 (k + 1) y0 y1 y2 y3 y4))
 | 0 => fun _ _ _ _ _ r h => by simp [tenetlaw02_GraphExplains.j0] at h
 | k + 1 => by
  have ih0 := tenetlaw02_GraphExplains.mono_l k
  ·intro y0 y1 y2 y3 y4
   unfold tenetlaw02_GraphExplains.j0
   repeat' first
   | (with_reducible exact ih0 _ _ _ _ _)
   | (with_reducible exact graph_Explain.mono _ _ _)
   | (with_reducible exact tenetlaw02_awake.mono _)
   | (with_reducible exact tenetlaw02_heavy.mono _ _ _ _)
   | (with_reducible exact tenetref02_Core.mono _ _ _ _)
   | (with_reducible exact tenetref02_Solve.mono _ _ _)
   | (with_reducible exact tenetref02_Valid.mono _ _ _)
   | (with_reducible exact LeO.refl _)
   | (with_reducible exact LeO.none _)
   | (with_reducible refine LeO.ite ?_ ?_)
   | (with_reducible refine LeO.bind ?_ (fun _ => ?_))
   | exact ih0 _ _ _ _ _
   | exact graph_Explain.mono _ _ _
   | exact tenetlaw02_awake.mono _
   | exact tenetlaw02_heavy.mono _ _ _ _
   | exact tenetref02_Core.mono _ _ _ _
   | exact tenetref02_Solve.mono _ _ _
   | exact tenetref02_Valid.mono _ _ _
   | exact LeO.none _
   | refine LeO.ite ?_ ?_
   | refine LeO.bind ?_ (fun _ => ?_)
theorem tenetlaw02_GraphExplains.mono : ∀ a0 a1 k, LeO (tenetlaw02_GraphExplains.f k a0 a1) (tenetlaw02_GraphExplains.f (k + 1) a0 a1) := by
 intro a0 a1 k
 have ih0 := tenetlaw02_GraphExplains.mono_l k
 unfold tenetlaw02_GraphExplains.f
 repeat' first
   | (with_reducible exact ih0 _ _ _ _ _)
   | (with_reducible exact graph_Explain.mono _ _ _)
   | (with_reducible exact tenetlaw02_awake.mono _)
   | (with_reducible exact tenetlaw02_heavy.mono _ _ _ _)
   | (with_reducible exact tenetref02_Core.mono _ _ _ _)
   | (with_reducible exact tenetref02_Solve.mono _ _ _)
   | (with_reducible exact tenetref02_Valid.mono _ _ _)
   | (with_reducible exact LeO.refl _)
   | (with_reducible exact LeO.none _)
   | (with_reducible refine LeO.ite ?_ ?_)
   | (with_reducible refine LeO.bind ?_ (fun _ => ?_))
   | exact ih0 _ _ _ _ _
   | exact graph_Explain.mono _ _ _
   | exact tenetlaw02_awake.mono _
   | exact tenetlaw02_heavy.mono _ _ _ _
   | exact tenetref02_Core.mono _ _ _ _
   | exact tenetref02_Solve.mono _ _ _
   | exact tenetref02_Valid.mono _ _ _
   | exact LeO.none _
   | refine LeO.ite ?_ ?_
   | refine LeO.bind ?_ (fun _ => ?_)
set_option maxHeartbeats 8000000 in
set_option maxRecDepth 100000 in
theorem tenetlaw02_GraphExplains.calls (k : Nat) (a0 : Int) (A1 : Option Addr) (c1 : Nat) (l1 : List (S44)) (r : Bool) (w : World) (hr1 : Kd.C k44 w A1 l1.length l1) (hc1 : l1.length ≤ c1) (h : tenetlaw02_GraphExplains.f k a0 l1 = some r) :
  Calls Try.prog 17 #[.int .i64 a0, .slice A1 l1.length c1] w fun e w' => e = .returned (.bool r) ∧ Below w.heap.size w w' := by
 have HR1 := Aside0.mk hr1
 have HC1 := Aside0.mk hc1
 clear hr1 hc1
 have HB := Aside0.mk (Below.refl w.heap.size w)
 have H : ((tenetlaw02_heavy.f k a0 l1 60).bind fun t877 => (if t877 = true then ((tenetlaw02_awake.f k).bind fun t878 => (some t878)) else ((graph_Explain.f k a0 l1).bind fun bt879 => ((tenetref02_Valid.f k a0 l1).bind fun t884 => (if t884 = true then ((tenetref02_Solve.f k a0 l1).bind fun bt886 => (if bt879.2.2 = 0 then (tenetlaw02_GraphExplains.j0 k a0 l1 bt879.1 bt879.2.1 (bt879.2.1 != (bt886.2 == 20))) else (tenetlaw02_GraphExplains.j0 k a0 l1 bt879.1 bt879.2.1 true))) else (if bt879.2.2 = 4 then (if (bt879.1.length : Int) = 0 then (if bt879.2.1 = true then (some false) else ((tenetlaw02_awake.f k).bind fun t885 => (some t885))) else (some false)) else (some false))))))) = some r := h
 clear h
 replace H := Option.bind_eq_some_iff.mp H
 obtain ⟨t877, A30, H⟩ := H
 replace H : (if t877 = true then ((tenetlaw02_awake.f k).bind fun t878 => (some t878)) else ((graph_Explain.f k a0 l1).bind fun bt879 => ((tenetref02_Valid.f k a0 l1).bind fun t884 => (if t884 = true then ((tenetref02_Solve.f k a0 l1).bind fun bt886 => (if bt879.2.2 = 0 then (tenetlaw02_GraphExplains.j0 k a0 l1 bt879.1 bt879.2.1 (bt879.2.1 != (bt886.2 == 20))) else (tenetlaw02_GraphExplains.j0 k a0 l1 bt879.1 bt879.2.1 true))) else (if bt879.2.2 = 4 then (if (bt879.1.length : Int) = 0 then (if bt879.2.1 = true then (some false) else ((tenetlaw02_awake.f k).bind fun t885 => (some t885))) else (some false)) else (some false)))))) = some r := H
 have A3 := Aside0.mk A30
 clear A30
 by_cases c4 : t877 = true
 ·subst c4
  have H1 : ((tenetlaw02_awake.f k).bind fun t878 => (some t878)) = some r := by rw [if_pos rfl] at H; exact H
  clear H
  have H := H1
  clear H1
  replace H := Option.bind_eq_some_iff.mp H
  obtain ⟨t878, A50, H⟩ := H
  replace H : (some t878) = some r := H
  have A5 := Aside0.mk A50
  clear A50
  obtain rfl := Option.some.inj H
  go_enter Try.func17, Try.ntmps17
  go_wp2_with (first | ((with_reducible refine gate_callee (f := 20) rfl ?_); refine goesL_ (some 12) rfl rfl Try.func20 (by kernel_rfl) rfl #[.int .i64 a0, .slice A1 l1.length c1, .int .i64 60] rfl (by (try simp only [List.map_toArray, List.map_cons, List.map_nil]); first | done | rfl | (simp only [List.length_drop, List.length_take]; rfl)) ?_; (with_reducible refine (tenetlaw02_heavy.calls k a0 _ _ l1 60 true _ ?side1 ?side2 A3.out).mono ?_); (case side1 => repeat (first | exact HR1.out | (with_reducible refine Kd.C_alloc ?_ _) | (with_reducible refine Kd.C_drewN ?_ _) | (with_reducible refine Kd.C_drew ?_))); (case side2 => exact HC1.out); rintro e w' ⟨rfl, ⟨nd, rfl⟩⟩; refine ⟨_, rfl, ?_⟩) | ((with_reducible refine gate_callee (f := 21) rfl ?_); refine goesL_ (some 13) rfl rfl Try.func21 (by kernel_rfl) rfl #[] rfl (by (try simp only [List.map_toArray, List.map_cons, List.map_nil]); first | done | rfl | (simp only [List.length_drop, List.length_take]; rfl)) ?_; (with_reducible refine (tenetlaw02_awake.calls k  t878 _ A5.out).mono ?_); rintro e w6 ⟨rfl, hb⟩; refine ⟨_, rfl, ?_⟩; have n0_ := Aside0.mk (below_step (by repeat (first | (with_reducible first | exact HB.out | apply below_alloc | apply pw_below_drewN | apply below_drew1) | exact HB.out)) hb); clear HB; have HB := n0_; clear n0_; (try clear hb); (try clear hb2); (try clear hk); (try clear hi)))
  go_ret
  exact ⟨by first | rfl | (simp [errW_none, errW_some] <;> rfl) | (simp [*, errW_none, errW_some] <;> rfl), by repeat (first | (with_reducible first | exact HB.out | apply below_alloc | apply pw_below_drewN | apply below_drew1) | exact HB.out)⟩
 ·replace c4 := Bool.eq_false_iff.mpr c4
  subst c4
  have H1 : ((graph_Explain.f k a0 l1).bind fun bt879 => ((tenetref02_Valid.f k a0 l1).bind fun t884 => (if t884 = true then ((tenetref02_Solve.f k a0 l1).bind fun bt886 => (if bt879.2.2 = 0 then (tenetlaw02_GraphExplains.j0 k a0 l1 bt879.1 bt879.2.1 (bt879.2.1 != (bt886.2 == 20))) else (tenetlaw02_GraphExplains.j0 k a0 l1 bt879.1 bt879.2.1 true))) else (if bt879.2.2 = 4 then (if (bt879.1.length : Int) = 0 then (if bt879.2.1 = true then (some false) else ((tenetlaw02_awake.f k).bind fun t885 => (some t885))) else (some false)) else (some false))))) = some r := by rw [if_neg (show ¬ (false = true) by decide)] at H; exact H
  clear H
  have H := H1
  clear H1
  replace H := Option.bind_eq_some_iff.mp H
  obtain ⟨⟨t879, t880, t881⟩, A70, H⟩ := H
  replace H : ((tenetref02_Valid.f k a0 l1).bind fun t884 => (if t884 = true then ((tenetref02_Solve.f k a0 l1).bind fun bt886 => (if t881 = 0 then (tenetlaw02_GraphExplains.j0 k a0 l1 t879 t880 (t880 != (bt886.2 == 20))) else (tenetlaw02_GraphExplains.j0 k a0 l1 t879 t880 true))) else (if t881 = 4 then (if (t879.length : Int) = 0 then (if t880 = true then (some false) else ((tenetlaw02_awake.f k).bind fun t885 => (some t885))) else (some false)) else (some false)))) = some r := H
  have A7 := Aside0.mk A70
  clear A70
  replace H := Option.bind_eq_some_iff.mp H
  obtain ⟨t884, A80, H⟩ := H
  replace H : (if t884 = true then ((tenetref02_Solve.f k a0 l1).bind fun bt886 => (if t881 = 0 then (tenetlaw02_GraphExplains.j0 k a0 l1 t879 t880 (t880 != (bt886.2 == 20))) else (tenetlaw02_GraphExplains.j0 k a0 l1 t879 t880 true))) else (if t881 = 4 then (if (t879.length : Int) = 0 then (if t880 = true then (some false) else ((tenetlaw02_awake.f k).bind fun t885 => (some t885))) else (some false)) else (some false))) = some r := H
  have A8 := Aside0.mk A80
  clear A80
  by_cases c9 : t884 = true
  ·subst c9
   have H1 : ((tenetref02_Solve.f k a0 l1).bind fun bt886 => (if t881 = 0 then (tenetlaw02_GraphExplains.j0 k a0 l1 t879 t880 (t880 != (bt886.2 == 20))) else (tenetlaw02_GraphExplains.j0 k a0 l1 t879 t880 true))) = some r := by rw [if_pos rfl] at H; exact H
   clear H
   have H := H1
   clear H1
   replace H := Option.bind_eq_some_iff.mp H
   obtain ⟨⟨t886, t887⟩, A100, H⟩ := H
   replace H : (if t881 = 0 then (tenetlaw02_GraphExplains.j0 k a0 l1 t879 t880 (t880 != (t887 == 20))) else (tenetlaw02_GraphExplains.j0 k a0 l1 t879 t880 true)) = some r := H
   have A10 := Aside0.mk A100
   clear A100
   have HC11 := Aside0.mk H
   clear H
   go_enter Try.func17, Try.ntmps17
   go_upto_region 7 with (first | ((with_reducible refine gate_callee (f := 20) rfl ?_); refine goesL_ (some 12) rfl rfl Try.func20 (by kernel_rfl) rfl #[.int .i64 a0, .slice A1 l1.length c1, .int .i64 60] rfl (by (try simp only [List.map_toArray, List.map_cons, List.map_nil]); first | done | rfl | (simp only [List.length_drop, List.length_take]; rfl)) ?_; (with_reducible refine (tenetlaw02_heavy.calls k a0 _ _ l1 60 false _ ?side1 ?side2 A3.out).mono ?_); (case side1 => repeat (first | exact HR1.out | (with_reducible refine Kd.C_alloc ?_ _) | (with_reducible refine Kd.C_drewN ?_ _) | (with_reducible refine Kd.C_drew ?_))); (case side2 => exact HC1.out); rintro e w' ⟨rfl, ⟨nd, rfl⟩⟩; refine ⟨_, rfl, ?_⟩) | ((with_reducible refine gate_callee (f := 45) rfl ?_); refine goesL_ (some 17) rfl rfl Try.func45 (by kernel_rfl) rfl #[.int .i64 a0, .slice A1 l1.length c1] rfl (by (try simp only [List.map_toArray, List.map_cons, List.map_nil]); first | done | rfl | (simp only [List.length_drop, List.length_take]; rfl)) ?_; (with_reducible refine (graph_Explain.calls k a0 _ _ l1 t879 t880 t881 _ ?side1 ?side2 A7.out).mono ?_); (case side1 => repeat (first | exact HR1.out | (with_reducible refine Kd.C_alloc ?_ _) | (with_reducible refine Kd.C_drewN ?_ _) | (with_reducible refine Kd.C_drew ?_))); (case side2 => exact HC1.out); rintro e w12 ⟨v882, rfl, ho0, hb⟩; refine ⟨_, rfl, ?_⟩; have n0_ := Aside0.mk (Kd.R_lower ho0 (below_size (by repeat (first | (with_reducible first | exact HB.out | apply below_alloc | apply pw_below_drewN | apply below_drew1) | exact HB.out)))); have n1_ := Aside0.mk (below_step (by repeat (first | (with_reducible first | exact HB.out | apply below_alloc | apply pw_below_drewN | apply below_drew1) | exact HB.out)) hb); clear HB; have HO883 := n0_; have HB := n1_; clear n0_ n1_; (try clear hb); (try clear hb2); (try clear hk); (try clear hi); (try clear ho0)) | ((with_reducible refine gate_callee (f := 25) rfl ?_); refine goesL_ (some 23) rfl rfl Try.func25 (by kernel_rfl) rfl #[.int .i64 a0, .slice A1 l1.length c1] rfl (by (try simp only [List.map_toArray, List.map_cons, List.map_nil]); first | done | rfl | (simp only [List.length_drop, List.length_take]; rfl)) ?_; (with_reducible refine (tenetref02_Valid.calls k a0 _ _ l1 true _ ?side1 ?side2 A8.out).mono ?_); (case side1 => repeat (first | exact (Kd.C_below HR1.out HB.out) | (with_reducible refine Kd.C_alloc ?_ _) | (with_reducible refine Kd.C_drewN ?_ _) | (with_reducible refine Kd.C_drew ?_))); (case side2 => exact HC1.out); rintro e w13 ⟨rfl, hb⟩; refine ⟨_, rfl, ?_⟩; have n0_ := Aside0.mk (Kd.R_below (by (with_reducible repeat (first | apply Kd.R_alloc | apply Kd.R_drewN | apply Kd.R_drew)); exact HO883.out) hb); have n1_ := Aside0.mk (below_step (by repeat (first | (with_reducible first | exact HB.out | apply below_alloc | apply pw_below_drewN | apply below_drew1) | exact HB.out)) hb); clear HO883; clear HB; have HO883 := n0_; have HB := n1_; clear n0_ n1_; (try clear hb); (try clear hb2); (try clear hk); (try clear hi)) | ((with_reducible refine gate_callee (f := 23) rfl ?_); refine goesL_ (some 42) rfl rfl Try.func23 (by kernel_rfl) rfl #[.int .i64 a0, .slice A1 l1.length c1] rfl (by (try simp only [List.map_toArray, List.map_cons, List.map_nil]); first | done | rfl | (simp only [List.length_drop, List.length_take]; rfl)) ?_; (with_reducible refine (tenetref02_Solve.calls k a0 _ _ l1 t886 t887 _ ?side1 ?side2 A10.out).mono ?_); (case side1 => repeat (first | exact (Kd.C_below HR1.out HB.out) | (with_reducible refine Kd.C_alloc ?_ _) | (with_reducible refine Kd.C_drewN ?_ _) | (with_reducible refine Kd.C_drew ?_))); (case side2 => exact HC1.out); rintro e w14 ⟨v888, rfl, ho0, hb⟩; refine ⟨_, rfl, ?_⟩; have n0_ := Aside0.mk (Kd.R_elder' (by (with_reducible repeat (first | apply Kd.R_alloc | apply Kd.R_drewN | apply Kd.R_drew)); exact HO883.out) (Kd.R_base ho0) hb); have n1_ := Aside0.mk (Kd.R_lower (Kd.R_new' ho0 (Kd.R_lt (by (with_reducible repeat (first | apply Kd.R_alloc | apply Kd.R_drewN | apply Kd.R_drew)); exact HO883.out))) (below_size (by repeat (first | (with_reducible first | exact HB.out | apply below_alloc | apply pw_below_drewN | apply below_drew1) | exact HB.out)))); have n2_ := Aside0.mk (below_step (by repeat (first | (with_reducible first | exact HB.out | apply below_alloc | apply pw_below_drewN | apply below_drew1) | exact HB.out)) hb); clear HO883; clear HB; have HO883 := n0_; have HO889 := n1_; have HB := n2_; clear n0_ n1_ n2_; (try clear hb); (try clear hb2); (try clear hk); (try clear hi); (try clear ho0)))
   (try simp only [Act.put, List.setIfInBounds_toArray, List.set_cons_zero, List.set_cons_succ])
   go_cut [52] (fun v52 wc => ∃ (kq : Nat) (x52_10 : Bool), v52 = .bool x52_10 ∧ Aside0 (tenetlaw02_GraphExplains.j0 kq a0 l1 t879 t880 x52_10 = some r) ∧ Aside0 (kq ≤ k) ∧ Aside0 (Kd.R (Kd.int .i64) 3 wc w.heap.size (fun _ => True) v882 t879) ∧ Aside0 (Below w.heap.size w wc))
   case first =>
    have H := HC11.out
    clear HC11
    by_cases c15 : t881 = 0
    ·rw [if_pos c15] at H
     have c15b0 : (t881 == 0) = true := beq_iff_eq.mpr c15
     have c15b1 : (t881 != 0) = false := bne_eq_false_iff_eq.mpr c15
     clear c15
     (first | rw [c15b0] | (simp only [i64_w, i32_w]; rw [c15b0]) | skip)
     have H' := Aside0.mk H
     clear H
     go_wp2
     go_meet
     case rel => exact ⟨_, ((t880 != (t887 == 20))), (by first | rfl | (simp; done) | (simp [*]; done)), H', ⟨by first | omega | exact Nat.le_refl _⟩, ⟨by (with_reducible repeat (first | apply Kd.R_alloc | apply Kd.R_drewN | apply Kd.R_drew)); exact Kd.R_mono HO883.out (fun _ hk => trivial)⟩, ⟨by repeat (first | (with_reducible first | exact HB.out | apply below_alloc | apply pw_below_drewN | apply below_drew1) | exact HB.out)⟩⟩
    ·rw [if_neg c15] at H
     have c15b0 : (t881 == 0) = false := beq_eq_false_iff_ne.mpr c15
     have c15b1 : (t881 != 0) = true := bne_iff_ne.mpr c15
     (first | rw [c15b0] | (simp only [i64_w, i32_w]; rw [c15b0]) | skip)
     have H' := Aside0.mk H
     clear H
     go_wp2
     go_meet
     case rel => exact ⟨_, (true), (by first | rfl | (simp; done) | (simp [*]; done)), H', ⟨by first | omega | exact Nat.le_refl _⟩, ⟨by (with_reducible repeat (first | apply Kd.R_alloc | apply Kd.R_drewN | apply Kd.R_drew)); exact Kd.R_mono HO883.out (fun _ hk => trivial)⟩, ⟨by repeat (first | (with_reducible first | exact HB.out | apply below_alloc | apply pw_below_drewN | apply below_drew1) | exact HB.out)⟩⟩
   case rest =>
    clear HC11
    try clear c1
    try clear c2
    try clear p2
    try clear c4
    try clear c9
    try clear c15
    try clear c15b0
    try clear c15b1
    obtain ⟨kq, x52_10, rfl, HA, HJ10, HO_5, HB⟩ := hcut
    cases kq with
    | zero => exact absurd HA.out (by simp [tenetlaw02_GraphExplains.j0])
    | succ kj10 =>
     have H := HA.out
     clear HA
     simp only [tenetlaw02_GraphExplains.j0] at H
     by_cases c16 : x52_10 = true
     ·subst c16
      have H1 : (some false) = some r := by rw [if_pos rfl] at H; exact H
      clear H
      have H := H1
      clear H1
      obtain rfl := Option.some.inj H
      go_wp2
      go_ret
      exact ⟨by first | rfl | (simp [errW_none, errW_some] <;> rfl) | (simp [*, errW_none, errW_some] <;> rfl), by repeat (first | (with_reducible first | exact HB.out | apply below_alloc | apply pw_below_drewN | apply below_drew1) | exact HB.out)⟩
     ·replace c16 := Bool.eq_false_iff.mpr c16
      subst c16
      have H1 : (if t880 = true then ((tenetref02_Core.f kj10 a0 l1 t879).bind fun t890 => (if t890 = true then ((tenetlaw02_awake.f kj10).bind fun t891 => (some t891)) else (some false))) else (if (t879.length : Int) = 0 then ((tenetlaw02_awake.f kj10).bind fun t892 => (some t892)) else (some false))) = some r := by rw [if_neg (show ¬ (false = true) by decide)] at H; exact H
      clear H
      have H := H1
      clear H1
      by_cases c17 : t880 = true
      ·subst c17
       have H1 : ((tenetref02_Core.f kj10 a0 l1 t879).bind fun t890 => (if t890 = true then ((tenetlaw02_awake.f kj10).bind fun t891 => (some t891)) else (some false))) = some r := by rw [if_pos rfl] at H; exact H
       clear H
       have H := H1
       clear H1
       replace H := Option.bind_eq_some_iff.mp H
       obtain ⟨t890, A180, H⟩ := H
       replace H : (if t890 = true then ((tenetlaw02_awake.f kj10).bind fun t891 => (some t891)) else (some false)) = some r := H
       have A18 := Aside0.mk A180
       clear A180
       by_cases c19 : t890 = true
       ·subst c19
        have H1 : ((tenetlaw02_awake.f kj10).bind fun t891 => (some t891)) = some r := by rw [if_pos rfl] at H; exact H
        clear H
        have H := H1
        clear H1
        replace H := Option.bind_eq_some_iff.mp H
        obtain ⟨t891, A200, H⟩ := H
        replace H : (some t891) = some r := H
        have A20 := Aside0.mk A200
        clear A200
        obtain rfl := Option.some.inj H
        obtain ⟨Ao21, co21, eo21⟩ := Kd.R_slice HO_5.out
        subst eo21
        go_wp2_with (first | ((with_reducible refine gate_callee (f := 46) rfl ?_); refine goesL_ (some 64) rfl rfl Try.func46 (by kernel_rfl) rfl #[.int .i64 a0, .slice A1 l1.length c1, .slice Ao21 t879.length co21] rfl (by (try simp only [List.map_toArray, List.map_cons, List.map_nil]); first | done | rfl | (simp only [List.length_drop, List.length_take]; rfl)) ?_; (with_reducible refine (tenetref02_Core.calls kj10 a0 (fun k_ => k_ < w.heap.size) _ _ l1 _ _ t879 true _ ?side1 ?side2 ?side3 A18.out).mono ?_); (case side1 => exact Kd.V_mk HC1.out (Kd.F_below (Kd.C_F k44_heap HR1.out) (by repeat (first | (with_reducible first | exact HB.out | apply below_alloc | apply pw_below_drewN | apply below_drew1) | exact HB.out)))); (case side2 => repeat (first | exact (Kd.R_reads' HO_5.out).2.2 | (with_reducible refine Kd.C_alloc ?_ _) | (with_reducible refine Kd.C_drewN ?_ _) | (with_reducible refine Kd.C_drew ?_))); (case side3 => exact (Kd.R_reads' HO_5.out).2.1); rintro e w22 ⟨rfl, hb⟩; refine ⟨_, rfl, ?_⟩; have n0_ := Aside0.mk (Kd.R_below (by (with_reducible repeat (first | apply Kd.R_alloc | apply Kd.R_drewN | apply Kd.R_drew)); exact HO_5.out) hb); have n1_ := Aside0.mk (below_step (by repeat (first | (with_reducible first | exact HB.out | apply below_alloc | apply pw_below_drewN | apply below_drew1) | exact HB.out)) hb); clear HO_5; clear HB; have HO_5 := n0_; have HB := n1_; clear n0_ n1_; (try clear hb); (try clear hb2); (try clear hk); (try clear hi)) | (go_at_call 21; (with_reducible refine (tenetlaw02_awake.calls kj10  t891 _ A20.out).mono ?_); rintro e w23 ⟨rfl, hb⟩; have n0_ := Aside0.mk (Kd.R_below (by (with_reducible repeat (first | apply Kd.R_alloc | apply Kd.R_drewN | apply Kd.R_drew)); exact HO_5.out) hb); have n1_ := Aside0.mk (below_step (by repeat (first | (with_reducible first | exact HB.out | apply below_alloc | apply pw_below_drewN | apply below_drew1) | exact HB.out)) hb); clear HO_5; clear HB; have HO_5 := n0_; have HB := n1_; clear n0_ n1_; (try clear hb); (try clear hb2); (try clear hk); (try clear hi)))
        go_ret
        exact ⟨by first | rfl | (simp [errW_none, errW_some] <;> rfl) | (simp [*, errW_none, errW_some] <;> rfl), by repeat (first | (with_reducible first | exact HB.out | apply below_alloc | apply pw_below_drewN | apply below_drew1) | exact HB.out)⟩
       ·replace c19 := Bool.eq_false_iff.mpr c19
        subst c19
        have H1 : (some false) = some r := by rw [if_neg (show ¬ (false = true) by decide)] at H; exact H
        clear H
        have H := H1
        clear H1
        obtain rfl := Option.some.inj H
        obtain ⟨Ao24, co24, eo24⟩ := Kd.R_slice HO_5.out
        subst eo24
        go_wp2_with (first | ((with_reducible refine gate_callee (f := 46) rfl ?_); refine goesL_ (some 64) rfl rfl Try.func46 (by kernel_rfl) rfl #[.int .i64 a0, .slice A1 l1.length c1, .slice Ao24 t879.length co24] rfl (by (try simp only [List.map_toArray, List.map_cons, List.map_nil]); first | done | rfl | (simp only [List.length_drop, List.length_take]; rfl)) ?_; (with_reducible refine (tenetref02_Core.calls kj10 a0 (fun k_ => k_ < w.heap.size) _ _ l1 _ _ t879 false _ ?side1 ?side2 ?side3 A18.out).mono ?_); (case side1 => exact Kd.V_mk HC1.out (Kd.F_below (Kd.C_F k44_heap HR1.out) (by repeat (first | (with_reducible first | exact HB.out | apply below_alloc | apply pw_below_drewN | apply below_drew1) | exact HB.out)))); (case side2 => repeat (first | exact (Kd.R_reads' HO_5.out).2.2 | (with_reducible refine Kd.C_alloc ?_ _) | (with_reducible refine Kd.C_drewN ?_ _) | (with_reducible refine Kd.C_drew ?_))); (case side3 => exact (Kd.R_reads' HO_5.out).2.1); rintro e w25 ⟨rfl, hb⟩; refine ⟨_, rfl, ?_⟩; have n0_ := Aside0.mk (Kd.R_below (by (with_reducible repeat (first | apply Kd.R_alloc | apply Kd.R_drewN | apply Kd.R_drew)); exact HO_5.out) hb); have n1_ := Aside0.mk (below_step (by repeat (first | (with_reducible first | exact HB.out | apply below_alloc | apply pw_below_drewN | apply below_drew1) | exact HB.out)) hb); clear HO_5; clear HB; have HO_5 := n0_; have HB := n1_; clear n0_ n1_; (try clear hb); (try clear hb2); (try clear hk); (try clear hi)))
        go_ret
        exact ⟨by first | rfl | (simp [errW_none, errW_some] <;> rfl) | (simp [*, errW_none, errW_some] <;> rfl), by repeat (first | (with_reducible first | exact HB.out | apply below_alloc | apply pw_below_drewN | apply below_drew1) | exact HB.out)⟩
      ·replace c17 := Bool.eq_false_iff.mpr c17
       subst c17
       have H1 : (if (t879.length : Int) = 0 then ((tenetlaw02_awake.f kj10).bind fun t892 => (some t892)) else (some false)) = some r := by rw [if_neg (show ¬ (false = true) by decide)] at H; exact H
       clear H
       have H := H1
       clear H1
       by_cases c26 : (t879.length : Int) = 0
       ·rw [if_pos c26] at H
        have c26b0 : ((t879.length : Int) == 0) = true := beq_iff_eq.mpr c26
        have c26b1 : ((t879.length : Int) != 0) = false := bne_eq_false_iff_eq.mpr c26
        clear c26
        replace H := Option.bind_eq_some_iff.mp H
        obtain ⟨t892, A270, H⟩ := H
        replace H : (some t892) = some r := H
        have A27 := Aside0.mk A270
        clear A270
        obtain rfl := Option.some.inj H
        obtain ⟨Ao28, co28, eo28⟩ := Kd.R_slice HO_5.out
        subst eo28
        go_wp2_with (first | (go_at_call 21; (with_reducible refine (tenetlaw02_awake.calls kj10  t892 _ A27.out).mono ?_); rintro e w29 ⟨rfl, hb⟩; have n0_ := Aside0.mk (Kd.R_below (by (with_reducible repeat (first | apply Kd.R_alloc | apply Kd.R_drewN | apply Kd.R_drew)); exact HO_5.out) hb); have n1_ := Aside0.mk (below_step (by repeat (first | (with_reducible first | exact HB.out | apply below_alloc | apply pw_below_drewN | apply below_drew1) | exact HB.out)) hb); clear HO_5; clear HB; have HO_5 := n0_; have HB := n1_; clear n0_ n1_; (try clear hb); (try clear hb2); (try clear hk); (try clear hi)))
        go_ret
        exact ⟨by first | rfl | (simp [errW_none, errW_some] <;> rfl) | (simp [*, errW_none, errW_some] <;> rfl), by repeat (first | (with_reducible first | exact HB.out | apply below_alloc | apply pw_below_drewN | apply below_drew1) | exact HB.out)⟩
       ·rw [if_neg c26] at H
        have c26b0 : ((t879.length : Int) == 0) = false := beq_eq_false_iff_ne.mpr c26
        have c26b1 : ((t879.length : Int) != 0) = true := bne_iff_ne.mpr c26
        have c26b2 : ¬ (t879 = []) := fun h_ => c26 (by rw [h_]; rfl)
        obtain rfl := Option.some.inj H
        obtain ⟨Ao30, co30, eo30⟩ := Kd.R_slice HO_5.out
        subst eo30
        go_wp2
        go_ret
        exact ⟨by first | rfl | (simp [errW_none, errW_some] <;> rfl) | (simp [*, errW_none, errW_some] <;> rfl), by repeat (first | (with_reducible first | exact HB.out | apply below_alloc | apply pw_below_drewN | apply below_drew1) | exact HB.out)⟩
  ·replace c9 := Bool.eq_false_iff.mpr c9
   subst c9
   have H1 : (if t881 = 4 then (if (t879.length : Int) = 0 then (if t880 = true then (some false) else ((tenetlaw02_awake.f k).bind fun t885 => (some t885))) else (some false)) else (some false)) = some r := by rw [if_neg (show ¬ (false = true) by decide)] at H; exact H
   clear H
   have H := H1
   clear H1
   by_cases c31 : t881 = 4
   ·rw [if_pos c31] at H
    have c31b0 : (t881 == 4) = true := beq_iff_eq.mpr c31
    have c31b1 : (t881 != 4) = false := bne_eq_false_iff_eq.mpr c31
    clear c31
    by_cases c32 : (t879.length : Int) = 0
    ·rw [if_pos c32] at H
     have c32b0 : ((t879.length : Int) == 0) = true := beq_iff_eq.mpr c32
     have c32b1 : ((t879.length : Int) != 0) = false := bne_eq_false_iff_eq.mpr c32
     clear c32
     by_cases c33 : t880 = true
     ·subst c33
      have H1 : (some false) = some r := by rw [if_pos rfl] at H; exact H
      clear H
      have H := H1
      clear H1
      obtain rfl := Option.some.inj H
      go_enter Try.func17, Try.ntmps17
      go_wp2_with (first | ((with_reducible refine gate_callee (f := 20) rfl ?_); refine goesL_ (some 12) rfl rfl Try.func20 (by kernel_rfl) rfl #[.int .i64 a0, .slice A1 l1.length c1, .int .i64 60] rfl (by (try simp only [List.map_toArray, List.map_cons, List.map_nil]); first | done | rfl | (simp only [List.length_drop, List.length_take]; rfl)) ?_; (with_reducible refine (tenetlaw02_heavy.calls k a0 _ _ l1 60 false _ ?side1 ?side2 A3.out).mono ?_); (case side1 => repeat (first | exact HR1.out | (with_reducible refine Kd.C_alloc ?_ _) | (with_reducible refine Kd.C_drewN ?_ _) | (with_reducible refine Kd.C_drew ?_))); (case side2 => exact HC1.out); rintro e w' ⟨rfl, ⟨nd, rfl⟩⟩; refine ⟨_, rfl, ?_⟩) | ((with_reducible refine gate_callee (f := 45) rfl ?_); refine goesL_ (some 17) rfl rfl Try.func45 (by kernel_rfl) rfl #[.int .i64 a0, .slice A1 l1.length c1] rfl (by (try simp only [List.map_toArray, List.map_cons, List.map_nil]); first | done | rfl | (simp only [List.length_drop, List.length_take]; rfl)) ?_; (with_reducible refine (graph_Explain.calls k a0 _ _ l1 t879 true t881 _ ?side1 ?side2 A7.out).mono ?_); (case side1 => repeat (first | exact HR1.out | (with_reducible refine Kd.C_alloc ?_ _) | (with_reducible refine Kd.C_drewN ?_ _) | (with_reducible refine Kd.C_drew ?_))); (case side2 => exact HC1.out); rintro e w34 ⟨v882, rfl, ho0, hb⟩; refine ⟨_, rfl, ?_⟩; have n0_ := Aside0.mk (Kd.R_lower ho0 (below_size (by repeat (first | (with_reducible first | exact HB.out | apply below_alloc | apply pw_below_drewN | apply below_drew1) | exact HB.out)))); have n1_ := Aside0.mk (below_step (by repeat (first | (with_reducible first | exact HB.out | apply below_alloc | apply pw_below_drewN | apply below_drew1) | exact HB.out)) hb); clear HB; have HO883 := n0_; have HB := n1_; clear n0_ n1_; (try clear hb); (try clear hb2); (try clear hk); (try clear hi); (try clear ho0)) | ((with_reducible refine gate_callee (f := 25) rfl ?_); refine goesL_ (some 23) rfl rfl Try.func25 (by kernel_rfl) rfl #[.int .i64 a0, .slice A1 l1.length c1] rfl (by (try simp only [List.map_toArray, List.map_cons, List.map_nil]); first | done | rfl | (simp only [List.length_drop, List.length_take]; rfl)) ?_; (with_reducible refine (tenetref02_Valid.calls k a0 _ _ l1 false _ ?side1 ?side2 A8.out).mono ?_); (case side1 => repeat (first | exact (Kd.C_below HR1.out HB.out) | (with_reducible refine Kd.C_alloc ?_ _) | (with_reducible refine Kd.C_drewN ?_ _) | (with_reducible refine Kd.C_drew ?_))); (case side2 => exact HC1.out); rintro e w35 ⟨rfl, hb⟩; refine ⟨_, rfl, ?_⟩; have n0_ := Aside0.mk (Kd.R_below (by (with_reducible repeat (first | apply Kd.R_alloc | apply Kd.R_drewN | apply Kd.R_drew)); exact HO883.out) hb); have n1_ := Aside0.mk (below_step (by repeat (first | (with_reducible first | exact HB.out | apply below_alloc | apply pw_below_drewN | apply below_drew1) | exact HB.out)) hb); clear HO883; clear HB; have HO883 := n0_; have HB := n1_; clear n0_ n1_; (try clear hb); (try clear hb2); (try clear hk); (try clear hi); obtain ⟨Ao36, co36, eo36⟩ := Kd.R_slice HO883.out; subst eo36))
      go_ret
      exact ⟨by first | rfl | (simp [errW_none, errW_some] <;> rfl) | (simp [*, errW_none, errW_some] <;> rfl), by repeat (first | (with_reducible first | exact HB.out | apply below_alloc | apply pw_below_drewN | apply below_drew1) | exact HB.out)⟩
     ·replace c33 := Bool.eq_false_iff.mpr c33
      subst c33
      have H1 : ((tenetlaw02_awake.f k).bind fun t885 => (some t885)) = some r := by rw [if_neg (show ¬ (false = true) by decide)] at H; exact H
      clear H
      have H := H1
      clear H1
      replace H := Option.bind_eq_some_iff.mp H
      obtain ⟨t885, A370, H⟩ := H
      replace H : (some t885) = some r := H
      have A37 := Aside0.mk A370
      clear A370
      obtain rfl := Option.some.inj H
      go_enter Try.func17, Try.ntmps17
      go_wp2_with (first | ((with_reducible refine gate_callee (f := 20) rfl ?_); refine goesL_ (some 12) rfl rfl Try.func20 (by kernel_rfl) rfl #[.int .i64 a0, .slice A1 l1.length c1, .int .i64 60] rfl (by (try simp only [List.map_toArray, List.map_cons, List.map_nil]); first | done | rfl | (simp only [List.length_drop, List.length_take]; rfl)) ?_; (with_reducible refine (tenetlaw02_heavy.calls k a0 _ _ l1 60 false _ ?side1 ?side2 A3.out).mono ?_); (case side1 => repeat (first | exact HR1.out | (with_reducible refine Kd.C_alloc ?_ _) | (with_reducible refine Kd.C_drewN ?_ _) | (with_reducible refine Kd.C_drew ?_))); (case side2 => exact HC1.out); rintro e w' ⟨rfl, ⟨nd, rfl⟩⟩; refine ⟨_, rfl, ?_⟩) | ((with_reducible refine gate_callee (f := 45) rfl ?_); refine goesL_ (some 17) rfl rfl Try.func45 (by kernel_rfl) rfl #[.int .i64 a0, .slice A1 l1.length c1] rfl (by (try simp only [List.map_toArray, List.map_cons, List.map_nil]); first | done | rfl | (simp only [List.length_drop, List.length_take]; rfl)) ?_; (with_reducible refine (graph_Explain.calls k a0 _ _ l1 t879 false t881 _ ?side1 ?side2 A7.out).mono ?_); (case side1 => repeat (first | exact HR1.out | (with_reducible refine Kd.C_alloc ?_ _) | (with_reducible refine Kd.C_drewN ?_ _) | (with_reducible refine Kd.C_drew ?_))); (case side2 => exact HC1.out); rintro e w38 ⟨v882, rfl, ho0, hb⟩; refine ⟨_, rfl, ?_⟩; have n0_ := Aside0.mk (Kd.R_lower ho0 (below_size (by repeat (first | (with_reducible first | exact HB.out | apply below_alloc | apply pw_below_drewN | apply below_drew1) | exact HB.out)))); have n1_ := Aside0.mk (below_step (by repeat (first | (with_reducible first | exact HB.out | apply below_alloc | apply pw_below_drewN | apply below_drew1) | exact HB.out)) hb); clear HB; have HO883 := n0_; have HB := n1_; clear n0_ n1_; (try clear hb); (try clear hb2); (try clear hk); (try clear hi); (try clear ho0)) | ((with_reducible refine gate_callee (f := 25) rfl ?_); refine goesL_ (some 23) rfl rfl Try.func25 (by kernel_rfl) rfl #[.int .i64 a0, .slice A1 l1.length c1] rfl (by (try simp only [List.map_toArray, List.map_cons, List.map_nil]); first | done | rfl | (simp only [List.length_drop, List.length_take]; rfl)) ?_; (with_reducible refine (tenetref02_Valid.calls k a0 _ _ l1 false _ ?side1 ?side2 A8.out).mono ?_); (case side1 => repeat (first | exact (Kd.C_below HR1.out HB.out) | (with_reducible refine Kd.C_alloc ?_ _) | (with_reducible refine Kd.C_drewN ?_ _) | (with_reducible refine Kd.C_drew ?_))); (case side2 => exact HC1.out); rintro e w39 ⟨rfl, hb⟩; refine ⟨_, rfl, ?_⟩; have n0_ := Aside0.mk (Kd.R_below (by (with_reducible repeat (first | apply Kd.R_alloc | apply Kd.R_drewN | apply Kd.R_drew)); exact HO883.out) hb); have n1_ := Aside0.mk (below_step (by repeat (first | (with_reducible first | exact HB.out | apply below_alloc | apply pw_below_drewN | apply below_drew1) | exact HB.out)) hb); clear HO883; clear HB; have HO883 := n0_; have HB := n1_; clear n0_ n1_; (try clear hb); (try clear hb2); (try clear hk); (try clear hi); obtain ⟨Ao40, co40, eo40⟩ := Kd.R_slice HO883.out; subst eo40) | (go_at_call 21; (with_reducible refine (tenetlaw02_awake.calls k  t885 _ A37.out).mono ?_); rintro e w41 ⟨rfl, hb⟩; have n0_ := Aside0.mk (Kd.R_below (by (with_reducible repeat (first | apply Kd.R_alloc | apply Kd.R_drewN | apply Kd.R_drew)); exact HO883.out) hb); have n1_ := Aside0.mk (below_step (by repeat (first | (with_reducible first | exact HB.out | apply below_alloc | apply pw_below_drewN | apply below_drew1) | exact HB.out)) hb); clear HO883; clear HB; have HO883 := n0_; have HB := n1_; clear n0_ n1_; (try clear hb); (try clear hb2); (try clear hk); (try clear hi)))
      go_ret
      exact ⟨by first | rfl | (simp [errW_none, errW_some] <;> rfl) | (simp [*, errW_none, errW_some] <;> rfl), by repeat (first | (with_reducible first | exact HB.out | apply below_alloc | apply pw_below_drewN | apply below_drew1) | exact HB.out)⟩
    ·rw [if_neg c32] at H
     have c32b0 : ((t879.length : Int) == 0) = false := beq_eq_false_iff_ne.mpr c32
     have c32b1 : ((t879.length : Int) != 0) = true := bne_iff_ne.mpr c32
     have c32b2 : ¬ (t879 = []) := fun h_ => c32 (by rw [h_]; rfl)
     obtain rfl := Option.some.inj H
     go_enter Try.func17, Try.ntmps17
     go_wp2_with (first | ((with_reducible refine gate_callee (f := 20) rfl ?_); refine goesL_ (some 12) rfl rfl Try.func20 (by kernel_rfl) rfl #[.int .i64 a0, .slice A1 l1.length c1, .int .i64 60] rfl (by (try simp only [List.map_toArray, List.map_cons, List.map_nil]); first | done | rfl | (simp only [List.length_drop, List.length_take]; rfl)) ?_; (with_reducible refine (tenetlaw02_heavy.calls k a0 _ _ l1 60 false _ ?side1 ?side2 A3.out).mono ?_); (case side1 => repeat (first | exact HR1.out | (with_reducible refine Kd.C_alloc ?_ _) | (with_reducible refine Kd.C_drewN ?_ _) | (with_reducible refine Kd.C_drew ?_))); (case side2 => exact HC1.out); rintro e w' ⟨rfl, ⟨nd, rfl⟩⟩; refine ⟨_, rfl, ?_⟩) | ((with_reducible refine gate_callee (f := 45) rfl ?_); refine goesL_ (some 17) rfl rfl Try.func45 (by kernel_rfl) rfl #[.int .i64 a0, .slice A1 l1.length c1] rfl (by (try simp only [List.map_toArray, List.map_cons, List.map_nil]); first | done | rfl | (simp only [List.length_drop, List.length_take]; rfl)) ?_; (with_reducible refine (graph_Explain.calls k a0 _ _ l1 t879 t880 t881 _ ?side1 ?side2 A7.out).mono ?_); (case side1 => repeat (first | exact HR1.out | (with_reducible refine Kd.C_alloc ?_ _) | (with_reducible refine Kd.C_drewN ?_ _) | (with_reducible refine Kd.C_drew ?_))); (case side2 => exact HC1.out); rintro e w42 ⟨v882, rfl, ho0, hb⟩; refine ⟨_, rfl, ?_⟩; have n0_ := Aside0.mk (Kd.R_lower ho0 (below_size (by repeat (first | (with_reducible first | exact HB.out | apply below_alloc | apply pw_below_drewN | apply below_drew1) | exact HB.out)))); have n1_ := Aside0.mk (below_step (by repeat (first | (with_reducible first | exact HB.out | apply below_alloc | apply pw_below_drewN | apply below_drew1) | exact HB.out)) hb); clear HB; have HO883 := n0_; have HB := n1_; clear n0_ n1_; (try clear hb); (try clear hb2); (try clear hk); (try clear hi); (try clear ho0)) | ((with_reducible refine gate_callee (f := 25) rfl ?_); refine goesL_ (some 23) rfl rfl Try.func25 (by kernel_rfl) rfl #[.int .i64 a0, .slice A1 l1.length c1] rfl (by (try simp only [List.map_toArray, List.map_cons, List.map_nil]); first | done | rfl | (simp only [List.length_drop, List.length_take]; rfl)) ?_; (with_reducible refine (tenetref02_Valid.calls k a0 _ _ l1 false _ ?side1 ?side2 A8.out).mono ?_); (case side1 => repeat (first | exact (Kd.C_below HR1.out HB.out) | (with_reducible refine Kd.C_alloc ?_ _) | (with_reducible refine Kd.C_drewN ?_ _) | (with_reducible refine Kd.C_drew ?_))); (case side2 => exact HC1.out); rintro e w43 ⟨rfl, hb⟩; refine ⟨_, rfl, ?_⟩; have n0_ := Aside0.mk (Kd.R_below (by (with_reducible repeat (first | apply Kd.R_alloc | apply Kd.R_drewN | apply Kd.R_drew)); exact HO883.out) hb); have n1_ := Aside0.mk (below_step (by repeat (first | (with_reducible first | exact HB.out | apply below_alloc | apply pw_below_drewN | apply below_drew1) | exact HB.out)) hb); clear HO883; clear HB; have HO883 := n0_; have HB := n1_; clear n0_ n1_; (try clear hb); (try clear hb2); (try clear hk); (try clear hi); obtain ⟨Ao44, co44, eo44⟩ := Kd.R_slice HO883.out; subst eo44))
     go_ret
     exact ⟨by first | rfl | (simp [errW_none, errW_some] <;> rfl) | (simp [*, errW_none, errW_some] <;> rfl), by repeat (first | (with_reducible first | exact HB.out | apply below_alloc | apply pw_below_drewN | apply below_drew1) | exact HB.out)⟩
   ·rw [if_neg c31] at H
    have c31b0 : (t881 == 4) = false := beq_eq_false_iff_ne.mpr c31
    have c31b1 : (t881 != 4) = true := bne_iff_ne.mpr c31
    obtain rfl := Option.some.inj H
    go_enter Try.func17, Try.ntmps17
    go_wp2_with (first | ((with_reducible refine gate_callee (f := 20) rfl ?_); refine goesL_ (some 12) rfl rfl Try.func20 (by kernel_rfl) rfl #[.int .i64 a0, .slice A1 l1.length c1, .int .i64 60] rfl (by (try simp only [List.map_toArray, List.map_cons, List.map_nil]); first | done | rfl | (simp only [List.length_drop, List.length_take]; rfl)) ?_; (with_reducible refine (tenetlaw02_heavy.calls k a0 _ _ l1 60 false _ ?side1 ?side2 A3.out).mono ?_); (case side1 => repeat (first | exact HR1.out | (with_reducible refine Kd.C_alloc ?_ _) | (with_reducible refine Kd.C_drewN ?_ _) | (with_reducible refine Kd.C_drew ?_))); (case side2 => exact HC1.out); rintro e w' ⟨rfl, ⟨nd, rfl⟩⟩; refine ⟨_, rfl, ?_⟩) | ((with_reducible refine gate_callee (f := 45) rfl ?_); refine goesL_ (some 17) rfl rfl Try.func45 (by kernel_rfl) rfl #[.int .i64 a0, .slice A1 l1.length c1] rfl (by (try simp only [List.map_toArray, List.map_cons, List.map_nil]); first | done | rfl | (simp only [List.length_drop, List.length_take]; rfl)) ?_; (with_reducible refine (graph_Explain.calls k a0 _ _ l1 t879 t880 t881 _ ?side1 ?side2 A7.out).mono ?_); (case side1 => repeat (first | exact HR1.out | (with_reducible refine Kd.C_alloc ?_ _) | (with_reducible refine Kd.C_drewN ?_ _) | (with_reducible refine Kd.C_drew ?_))); (case side2 => exact HC1.out); rintro e w45 ⟨v882, rfl, ho0, hb⟩; refine ⟨_, rfl, ?_⟩; have n0_ := Aside0.mk (Kd.R_lower ho0 (below_size (by repeat (first | (with_reducible first | exact HB.out | apply below_alloc | apply pw_below_drewN | apply below_drew1) | exact HB.out)))); have n1_ := Aside0.mk (below_step (by repeat (first | (with_reducible first | exact HB.out | apply below_alloc | apply pw_below_drewN | apply below_drew1) | exact HB.out)) hb); clear HB; have HO883 := n0_; have HB := n1_; clear n0_ n1_; (try clear hb); (try clear hb2); (try clear hk); (try clear hi); (try clear ho0)) | ((with_reducible refine gate_callee (f := 25) rfl ?_); refine goesL_ (some 23) rfl rfl Try.func25 (by kernel_rfl) rfl #[.int .i64 a0, .slice A1 l1.length c1] rfl (by (try simp only [List.map_toArray, List.map_cons, List.map_nil]); first | done | rfl | (simp only [List.length_drop, List.length_take]; rfl)) ?_; (with_reducible refine (tenetref02_Valid.calls k a0 _ _ l1 false _ ?side1 ?side2 A8.out).mono ?_); (case side1 => repeat (first | exact (Kd.C_below HR1.out HB.out) | (with_reducible refine Kd.C_alloc ?_ _) | (with_reducible refine Kd.C_drewN ?_ _) | (with_reducible refine Kd.C_drew ?_))); (case side2 => exact HC1.out); rintro e w46 ⟨rfl, hb⟩; refine ⟨_, rfl, ?_⟩; have n0_ := Aside0.mk (Kd.R_below (by (with_reducible repeat (first | apply Kd.R_alloc | apply Kd.R_drewN | apply Kd.R_drew)); exact HO883.out) hb); have n1_ := Aside0.mk (below_step (by repeat (first | (with_reducible first | exact HB.out | apply below_alloc | apply pw_below_drewN | apply below_drew1) | exact HB.out)) hb); clear HO883; clear HB; have HO883 := n0_; have HB := n1_; clear n0_ n1_; (try clear hb); (try clear hb2); (try clear hk); (try clear hi)))
    go_ret
    exact ⟨by first | rfl | (simp [errW_none, errW_some] <;> rfl) | (simp [*, errW_none, errW_some] <;> rfl), by repeat (first | (with_reducible first | exact HB.out | apply below_alloc | apply pw_below_drewN | apply below_drew1) | exact HB.out)⟩
end Go.Proofs.Ytegejpcglabhbaa.G
