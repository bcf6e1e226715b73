-- Made by a program of this claim's author out of the translation (a run of the kit's print, one closing step turned).
import Derived.Test.YtlidibbdacohaaaPRingEqualsx0
import Derived.Test.YtlidibbdacohaaaPRingEqualsxf100
namespace Go.Proofs.Ytlidibbdacohaaa.PRingEquals
open Go.RowKit Go.Proofs.YtlidibbdacohaaaW.PrintWords Go.Proofs.YtlidibbdacohaaaW.PrintLast Go.Proofs.YtlidibbdacohaaaW.PrintMore
attribute [local go_sem] max2_int min2_int max_two min_two max_three min_three max_four min_four   -- for this text's walks alone
set_option linter.unusedVariables false
set_option linter.unusedSimpArgs false

/-! ### tenetref24_add: function 80 -/
def tenetref24_add.l0 : Nat → List (S74) → List (S74) → Int → Option ((List (S74)) × Bool)
  | 0, _, _, _ => none
  | k + 1, x1, x6, x7 => if x7 < (x1.length : Int) then (if 0 ≤ x7 then ((tenetref24_into.f k x6 ((rd_T74 x1 x7).f0) ((rd_T74 x1 x7).f1)).bind fun bt283 => (if bt283.2 = true then (tenetref24_add.l0 k x1 bt283.1 (wrap64 (x7 + 1))) else (some (([] : List (S74)), false)))) else (none)) else (some (x6, decide ((x6.length : Int) ≤ 200)))
def tenetref24_add.f (k : Nat) (l0 : List (S74)) (l1 : List (S74)) : Option ((List (S74)) × Bool) := tenetref24_add.l0 k l1 l0 0
theorem tenetref24_add.mono_l : ∀ k, (∀ y0 y1 y2, LeO (tenetref24_add.l0 k y0 y1 y2) (tenetref24_add.l0 (k + 1) y0 y1 y2))
  | 0 => fun _ _ _ r h => by simp [tenetref24_add.l0] at h
  | k + 1 => by
    have ih0 := tenetref24_add.mono_l k
    · intro y0 y1 y2
      unfold tenetref24_add.l0
      repeat' first
      | (with_reducible exact ih0 _ _ _)
      | (with_reducible exact tenetref24_into.mono _ _ _ _)
      | (with_reducible exact LeO.refl _)
      | (with_reducible exact LeO.none _)
      | (with_reducible refine LeO.ite ?_ ?_)
      | (with_reducible refine LeO.bind ?_ (fun _ => ?_))
      | exact ih0 _ _ _
      | exact tenetref24_into.mono _ _ _ _
      | exact LeO.none _
      | refine LeO.ite ?_ ?_
      | refine LeO.bind ?_ (fun _ => ?_)
theorem tenetref24_add.mono : ∀ a0 a1 k, LeO (tenetref24_add.f k a0 a1) (tenetref24_add.f (k + 1) a0 a1) := by
  intro a0 a1 k
  have ih0 := tenetref24_add.mono_l k
  unfold tenetref24_add.f
  repeat' first
      | (with_reducible exact ih0 _ _ _)
      | (with_reducible exact tenetref24_into.mono _ _ _ _)
      | (with_reducible exact LeO.refl _)
      | (with_reducible exact LeO.none _)
      | (with_reducible refine LeO.ite ?_ ?_)
      | (with_reducible refine LeO.bind ?_ (fun _ => ?_))
      | exact ih0 _ _ _
      | exact tenetref24_into.mono _ _ _ _
      | exact LeO.none _
      | refine LeO.ite ?_ ?_
      | refine LeO.bind ?_ (fun _ => ?_)
set_option maxHeartbeats 8000000 in
set_option maxRecDepth 100000 in
theorem tenetref24_add.calls (k : Nat) (P0_ : Nat → Prop) (A0 : Option Addr) (c0 : Nat) (l0 : List (S74)) (P1_ : Nat → Prop) (A1 : Option Addr) (c1 : Nat) (l1 : List (S74)) (r1 : List (S74)) (r2 : Bool) (w : World) (hs0 : Kd.V k74 74 w w.heap.size (fun k_ => P0_ k_) (.slice A0 l0.length c0) l0) (hs1 : Kd.V k74 74 w w.heap.size (fun k_ => P1_ k_) (.slice A1 l1.length c1) l1) (h : tenetref24_add.f k l0 l1 = some (r1, r2)) :
    Calls Try.prog 80 #[.slice A0 l0.length c0, .slice A1 l1.length c1] w fun e w' => ∃ v0_ : Value, e = .returned (.tuple #[v0_, .bool r2]) ∧ Kd.V k74 74 w' w.heap.size (fun k_ => ((P0_ k_ ∨ P1_ k_) ∨ w.heap.size ≤ k_)) v0_ r1 ∧ Below w.heap.size w w' := by
  have hu74 := Try.underlying74
  have HO0 := Aside0.mk (show Kd.V k74 74 w w.heap.size (fun k_ => ((P0_ k_ ∨ P1_ k_) ∨ w.heap.size ≤ k_)) (.slice A0 l0.length c0) l0 from Kd.V_mono hs0 (fun k_ hk => .inl (.inl hk)))
  have HO1 := Aside0.mk (show Kd.V k74 74 w w.heap.size (fun k_ => ((P0_ k_ ∨ P1_ k_) ∨ w.heap.size ≤ k_)) (.slice A1 l1.length c1) l1 from Kd.V_mono hs1 (fun k_ hk => .inl (.inr hk)))
  have HB := Aside0.mk (Below.refl w.heap.size w)
  have H : (tenetref24_add.l0 k l1 l0 0) = some (r1, r2) := h
  clear h
  have H' := Aside0.mk H
  clear H
  go_enter Try.func80, Try.ntmps80
  go_wp2
  go_loopg [6, 7] k (fun kq v6 v7 w' => ∃ (x6_1 : List (S74)) (x7_1 : Int), v7 = .int .i64 x7_1 ∧ Aside0 (tenetref24_add.l0 kq l1 x6_1 x7_1 = some (r1, r2)) ∧ Aside0 (kq ≤ k) ∧ Aside0 (Kd.V k74 74 w' w.heap.size (fun k_ => ((P0_ k_ ∨ P1_ k_) ∨ w.heap.size ≤ k_)) (.slice A1 l1.length c1) l1) ∧ Aside0 (Kd.V k74 74 w' w.heap.size (fun k_ => ((P0_ k_ ∨ P1_ k_) ∨ w.heap.size ≤ k_)) v6 x6_1) ∧ Aside0 (Below w.heap.size w w'))
  case atStart => exact ⟨(l0), (0), (by first | rfl | (simp; done) | (simp [*]; done)), H', ⟨Nat.le_refl _⟩, ⟨by (with_reducible repeat (first | apply Kd.V_alloc | apply Kd.V_drewN | apply Kd.V_drew)); exact HO1.out⟩, ⟨by (with_reducible repeat (first | apply Kd.V_alloc | apply Kd.V_drewN | apply Kd.V_drew)); exact HO0.out⟩, ⟨by repeat (first | (with_reducible first | exact HB.out | apply below_alloc | apply pw_below_drewN | apply below_drew1) | exact HB.out)⟩⟩
  case round =>
    clear H'
    try clear c1
    try clear p2
    obtain ⟨x6_1, x7_1, rfl, HA, HK1, HO_1, HO_6, HB⟩ := hrel
    cases gk with
    | zero => exact absurd HA.out (by simp [tenetref24_add.l0])
    | succ k1 =>
      have H := HA.out
      clear HA
      simp only [tenetref24_add.l0] at H
      by_cases c3 : x7_1 < (l1.length : Int)
      · rw [if_pos c3] at H
        have c3b0 : decide (x7_1 < (l1.length : Int)) = true := decide_eq_true c3
        clear c3
        by_cases c4 : 0 ≤ x7_1
        · rw [if_pos c4] at H
          have c4b0 : decide (0 ≤ x7_1) = true := decide_eq_true c4
          clear c4
          replace H := Option.bind_eq_some_iff.mp H
          obtain ⟨⟨t283, t286⟩, A50, H⟩ := H
          replace H : (if t286 = true then (tenetref24_add.l0 k1 l1 t283 (wrap64 (x7_1 + 1))) else (some (([] : List (S74)), false))) = some (r1, r2) := H
          have A5 := Aside0.mk A50
          clear A50
          by_cases c6 : t286 = true
          · subst c6
            have H1 : (tenetref24_add.l0 k1 l1 t283 (wrap64 (x7_1 + 1))) = some (r1, r2) := by rw [if_pos rfl] at H; exact H
            clear H
            have H := H1
            clear H1
            have H' := Aside0.mk H
            clear H
            have p282 : 0 ≤ (x7_1 : Int) := of_decide_eq_true (by first | (with_reducible assumption) | assumption)
            have q282 : x7_1 < (l1.length : Int) := of_decide_eq_true (by first | (with_reducible assumption) | assumption)
            obtain ⟨ad282, A282_1, c282_1, e282, hx282_0, hx282_1, hl282_1, hi282_1⟩ := at_T74 (Kd.V_reads' HO_1.out).2.2 x7_1 p282 q282
            cases e282
            obtain ⟨ce282, hce282, hMe282, hcc282⟩ := Kd.V_get HO_1.out z74 x7_1 p282 (by first | exact q282 | exact of_decide_eq_true (by first | (with_reducible assumption) | assumption) | (have e_ := (Kd.V_reads' HO_1.out).1; omega))
            obtain ⟨ua282_1, uc282_1, rfl, ul282_1, ge282_1⟩ := k74_openF hMe282
            have hv282_1 := hcc282 1 _ rfl
            rw [add_field _ _ 1 (by omega)] at hv282_1
            replace hv282_1 := Option.some.inj (hv282_1.symm.trans hx282_1)
            injection hv282_1 with hva_ hvn_ hvc_
            rw [hva_] at ge282_1
            rw [hvc_] at ul282_1
            have HL282_1 := Aside0.mk (show Kd.V (Kd.int .i64) 3 _ w.heap.size _ _ ((rd_T74 l1 x7_1).f1) from Kd.V_mk ul282_1 ge282_1)
            clear hva_ hvn_ hvc_ ge282_1 ul282_1
            clear hcc282 hce282
            have HR282_1 := Aside0.mk hi282_1
            have HC282_1 := Aside0.mk hl282_1
            clear hi282_1 hl282_1
            replace p282 := eq_true p282
            replace q282 := eq_true q282
            obtain ⟨Ao7, co7, eo7⟩ := Kd.V_slice HO_6.out
            subst eo7
            go_wp2_with (first | ((with_reducible refine gate_callee (f := 100) rfl ?_); refine goesL_ (some 23) rfl rfl Try.func100 (by kernel_rfl) rfl #[.slice Ao7 x6_1.length co7, .agg #[.int .i64 ((rd_T74 l1 x7_1).f0), .slice A282_1 ((rd_T74 l1 x7_1).f1).length c282_1]] rfl (by (try simp only [List.map_toArray, List.map_cons, List.map_nil]); first | done | rfl | (simp only [List.length_drop, List.length_take]; rfl)) ?_; (with_reducible refine (tenetref24_into.calls k1 (fun k_ => ((P0_ k_ ∨ P1_ k_) ∨ w.heap.size ≤ k_)) _ _ x6_1 ((rd_T74 l1 x7_1).f0) (fun k_ => ((P0_ k_ ∨ P1_ k_) ∨ w.heap.size ≤ k_)) _ _ ((rd_T74 l1 x7_1).f1) t283 true _ ?side1 ?side2 A5.out).mono ?_); (case side1 => exact HO_6.out); (case side2 => exact HL282_1.out); rintro e w8 ⟨v284, rfl, ho0, hb⟩; refine ⟨_, rfl, ?_⟩; have n0_ := Aside0.mk (Kd.V_elder' (by (with_reducible repeat (first | apply Kd.V_alloc | apply Kd.V_drewN | apply Kd.V_drew)); exact HO_1.out) (Kd.N_base ho0) hb); have n1_ := Aside0.mk (Kd.V_elder' (by (with_reducible repeat (first | apply Kd.V_alloc | apply Kd.V_drewN | apply Kd.V_drew)); exact HO_6.out) (Kd.N_base ho0) hb); have n2_ := Aside0.mk (Kd.V_elder' (by (with_reducible repeat (first | apply Kd.V_alloc | apply Kd.V_drewN | apply Kd.V_drew)); exact HL282_1.out) (Kd.N_base ho0) hb); have n3_ := Aside0.mk (Kd.N_lower (Kd.N_mono (ok' := fun k_ => ((P0_ k_ ∨ P1_ k_) ∨ w.heap.size ≤ k_)) ho0 (fun k_ hk_ => Or.elim hk_ (fun hs_ => Or.elim hs_ (fun hs_ => hs_) (fun hs_ => hs_)) (fun hn_ => (.inr (Nat.le_trans (below_size (by repeat (first | (with_reducible first | exact HB.out | apply below_alloc | apply pw_below_drewN | apply below_drew1) | exact HB.out))) hn_))))) (below_size (by repeat (first | (with_reducible first | exact HB.out | apply below_alloc | apply pw_below_drewN | apply below_drew1) | exact HB.out)))); have n4_ := Aside0.mk (Kd.C_below (by repeat (first | (with_reducible exact HR282_1.out) | (with_reducible refine Kd.C_alloc ?_ _) | (with_reducible refine Kd.C_drewN ?_ _) | (with_reducible refine Kd.C_drew ?_) | exact HR282_1.out)) hb); have n5_ := Aside0.mk (below_step (by repeat (first | (with_reducible first | exact HB.out | apply below_alloc | apply pw_below_drewN | apply below_drew1) | exact HB.out)) hb); clear HO_1; clear HO_6; clear HL282_1; clear HR282_1; clear HB; have HO_1 := n0_; have HO_6 := n1_; have HL282_1 := n2_; have HO285 := n3_; have HR282_1 := n4_; have HB := n5_; clear n0_ n1_ n2_ n3_ n4_ n5_; (try clear hb); (try clear hb2); (try clear hk); (try clear hi); (try clear ho0)))
            go_roundg k1
            case measure => have := HK1.out; omega
            case rel => exact ⟨(t283), (wrap64 (x7_1 + 1)), (by first | rfl | (simp; done) | (simp [*]; done)), H', ⟨by have := HK1.out; omega⟩, ⟨by (with_reducible repeat (first | apply Kd.V_alloc | apply Kd.V_drewN | apply Kd.V_drew)); exact Kd.V_mono HO_1.out (fun _ hk => hk.1)⟩, ⟨Kd.N_V (by (with_reducible repeat (first | apply Kd.N_alloc | apply Kd.N_drewN | apply Kd.N_drew)); exact HO285.out)⟩, ⟨by repeat (first | (with_reducible first | exact HB.out | apply below_alloc | apply pw_below_drewN | apply below_drew1) | exact HB.out)⟩⟩
          · replace c6 := Bool.eq_false_iff.mpr c6
            subst c6
            have H1 : (some (([] : List (S74)), false)) = some (r1, r2) := by rw [if_neg (show ¬ (false = true) by decide)] at H; exact H
            clear H
            have H := H1
            clear H1
            simp only [Option.some.injEq, Prod.mk.injEq] at H
            obtain ⟨rfl, rfl⟩ := H
            have p282 : 0 ≤ (x7_1 : Int) := of_decide_eq_true (by first | (with_reducible assumption) | assumption)
            have q282 : x7_1 < (l1.length : Int) := of_decide_eq_true (by first | (with_reducible assumption) | assumption)
            obtain ⟨ad282, A282_1, c282_1, e282, hx282_0, hx282_1, hl282_1, hi282_1⟩ := at_T74 (Kd.V_reads' HO_1.out).2.2 x7_1 p282 q282
            cases e282
            obtain ⟨ce282, hce282, hMe282, hcc282⟩ := Kd.V_get HO_1.out z74 x7_1 p282 (by first | exact q282 | exact of_decide_eq_true (by first | (with_reducible assumption) | assumption) | (have e_ := (Kd.V_reads' HO_1.out).1; omega))
            obtain ⟨ua282_1, uc282_1, rfl, ul282_1, ge282_1⟩ := k74_openF hMe282
            have hv282_1 := hcc282 1 _ rfl
            rw [add_field _ _ 1 (by omega)] at hv282_1
            replace hv282_1 := Option.some.inj (hv282_1.symm.trans hx282_1)
            injection hv282_1 with hva_ hvn_ hvc_
            rw [hva_] at ge282_1
            rw [hvc_] at ul282_1
            have HL282_1 := Aside0.mk (show Kd.V (Kd.int .i64) 3 _ w.heap.size _ _ ((rd_T74 l1 x7_1).f1) from Kd.V_mk ul282_1 ge282_1)
            clear hva_ hvn_ hvc_ ge282_1 ul282_1
            clear hcc282 hce282
            have HR282_1 := Aside0.mk hi282_1
            have HC282_1 := Aside0.mk hl282_1
            clear hi282_1 hl282_1
            replace p282 := eq_true p282
            replace q282 := eq_true q282
            obtain ⟨Ao9, co9, eo9⟩ := Kd.V_slice HO_6.out
            subst eo9
            go_wp2_with (first | ((with_reducible refine gate_callee (f := 100) rfl ?_); refine goesL_ (some 23) rfl rfl Try.func100 (by kernel_rfl) rfl #[.slice Ao9 x6_1.length co9, .agg #[.int .i64 ((rd_T74 l1 x7_1).f0), .slice A282_1 ((rd_T74 l1 x7_1).f1).length c282_1]] rfl (by (try simp only [List.map_toArray, List.map_cons, List.map_nil]); first | done | rfl | (simp only [List.length_drop, List.length_take]; rfl)) ?_; (with_reducible refine (tenetref24_into.calls k1 (fun k_ => ((P0_ k_ ∨ P1_ k_) ∨ w.heap.size ≤ k_)) _ _ x6_1 ((rd_T74 l1 x7_1).f0) (fun k_ => ((P0_ k_ ∨ P1_ k_) ∨ w.heap.size ≤ k_)) _ _ ((rd_T74 l1 x7_1).f1) t283 false _ ?side1 ?side2 A5.out).mono ?_); (case side1 => exact HO_6.out); (case side2 => exact HL282_1.out); rintro e w10 ⟨v284, rfl, ho0, hb⟩; refine ⟨_, rfl, ?_⟩; have n0_ := Aside0.mk (Kd.V_elder' (by (with_reducible repeat (first | apply Kd.V_alloc | apply Kd.V_drewN | apply Kd.V_drew)); exact HO_1.out) (Kd.N_base ho0) hb); have n1_ := Aside0.mk (Kd.V_elder' (by (with_reducible repeat (first | apply Kd.V_alloc | apply Kd.V_drewN | apply Kd.V_drew)); exact HO_6.out) (Kd.N_base ho0) hb); have n2_ := Aside0.mk (Kd.V_elder' (by (with_reducible repeat (first | apply Kd.V_alloc | apply Kd.V_drewN | apply Kd.V_drew)); exact HL282_1.out) (Kd.N_base ho0) hb); have n3_ := Aside0.mk (Kd.N_lower (Kd.N_mono (ok' := fun k_ => ((P0_ k_ ∨ P1_ k_) ∨ w.heap.size ≤ k_)) ho0 (fun k_ hk_ => Or.elim hk_ (fun hs_ => Or.elim hs_ (fun hs_ => hs_) (fun hs_ => hs_)) (fun hn_ => (.inr (Nat.le_trans (below_size (by repeat (first | (with_reducible first | exact HB.out | apply below_alloc | apply pw_below_drewN | apply below_drew1) | exact HB.out))) hn_))))) (below_size (by repeat (first | (with_reducible first | exact HB.out | apply below_alloc | apply pw_below_drewN | apply below_drew1) | exact HB.out)))); have n4_ := Aside0.mk (Kd.C_below (by repeat (first | (with_reducible exact HR282_1.out) | (with_reducible refine Kd.C_alloc ?_ _) | (with_reducible refine Kd.C_drewN ?_ _) | (with_reducible refine Kd.C_drew ?_) | exact HR282_1.out)) hb); have n5_ := Aside0.mk (below_step (by repeat (first | (with_reducible first | exact HB.out | apply below_alloc | apply pw_below_drewN | apply below_drew1) | exact HB.out)) hb); clear HO_1; clear HO_6; clear HL282_1; clear HR282_1; clear HB; have HO_1 := n0_; have HO_6 := n1_; have HL282_1 := n2_; have HO285 := n3_; have HR282_1 := n4_; have HB := n5_; clear n0_ n1_ n2_ n3_ n4_ n5_; (try clear hb); (try clear hb2); (try clear hk); (try clear hi); (try clear ho0)))
            go_ret2
            exact ⟨_, by first | rfl | (simp [errW_none, errW_some] <;> rfl) | (simp [*, errW_none, errW_some] <;> rfl), (show Kd.V k74 74 _ w.heap.size _ (.slice none 0 0) [] from Kd.V_nil _ _ _ _ _), by repeat (first | (with_reducible first | exact HB.out | apply below_alloc | apply pw_below_drewN | apply below_drew1) | exact HB.out)⟩
        · rw [if_neg c4] at H
          exact absurd H (by simp)
      · rw [if_neg c3] at H
        have c3b0 : decide (x7_1 < (l1.length : Int)) = false := decide_eq_false c3
        clear c3
        simp only [Option.some.injEq, Prod.mk.injEq] at H
        obtain ⟨rfl, rfl⟩ := H
        obtain ⟨Ao11, co11, eo11⟩ := Kd.V_slice HO_6.out
        subst eo11
        go_wp2
        go_ret2
        exact ⟨_, by first | rfl | (simp [errW_none, errW_some] <;> rfl) | (simp [*, errW_none, errW_some] <;> rfl), by (with_reducible repeat (first | apply Kd.V_alloc | apply Kd.V_drewN | apply Kd.V_drew)); exact HO_6.out, by repeat (first | (with_reducible first | exact HB.out | apply below_alloc | apply pw_below_drewN | apply below_drew1) | exact HB.out)⟩

end Go.Proofs.Ytlidibbdacohaaa.PRingEquals
