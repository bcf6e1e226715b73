/- A part of this claim's proof: texts of its author, and printed ones, packed by a program of its author's. -/
import Derived.Test.YtegejpcglabhbaaCe2
import Derived.Test.YtegejpcglabhbaaCe14
import Derived.Test.YtegejpcglabhbaaCe12
import Derived.Test.YtegejpcglabhbaaCe29
import Derived.Test.YtegejpcglabhbaaCe11
import Derived.Test.YtegejpcglabhbaaCe37
namespace Go.Proofs.Ytegejpcglabhbaa.G
open Go.RowKit Go.Proofs.YtegejpcglabhbaaW.PrintWords Go.Proofs.YtegejpcglabhbaaW.PrintLast Go.Proofs.YtegejpcglabhbaaW.PrintMore
attribute [local go_sem] max2_int min2_int max_two min_two max_three min_three max_four min_four
set_option linter.unusedVariables false
set_option linter.unusedSimpArgs false
theorem store_slice {α : Type} {d : Kd α} {e : TypeId} {u w : World} {base : Nat} {ok : Nat → Prop} {v : Value} {xs : List α} {P : Program} {a : Addr} {m : Mode} (h : d.R e u base ok v xs) : (store a v m).run P w = stored P w a v m := by
 obtain ⟨_, _, e⟩ := Kd.R_slice h
 exact run_store P w a v m (by rw [e]; rfl)
mutual
def tenetlaw02_GraphCircles.j0 : Nat → Int → Int → Bool → Option (Bool)
 | 0, _, _, _ => none
 | k + 1, x0, x1, x21 => if x21 = true then ((tenetlaw02_awake.f k).bind fun t893 => (some t893)) else (tenetlaw02_GraphCircles.l0 k x0 x1 ([] : List (S44)) ([] : List Int) 0)
def tenetlaw02_GraphCircles.l0 : Nat → Int → Int → List (S44) → List Int → Int → Option (Bool)
 | 0, _, _, _, _, _ => none
 | k + 1, x0, x1, x5, x6, x7 => if x7 < x0 then ((tenetlaw02_at.f x7 0).bind fun bt894 => (if x0 = 0 then (none) else ((tenetlaw02_at.f (Int.tmod (wrap64 (x7 + 1)) x0) 0).bind fun bt898 => (if x5.length < 2199023255552 then (if x6.length < 17592186044416 then (tenetlaw02_GraphCircles.l0 k x0 x1 (x5 ++ [(⟨(⟨bt894.1, bt894.2⟩ : S41), (⟨bt898.1, bt898.2⟩ : S41)⟩ : S44)]) (x6 ++ [x7]) (wrap64 (x7 + 1))) else (none)) else (none))))) else ((graph_Classes.f k x0 x5).bind fun bt908 => (if bt908.2 = 0 then (if (bt908.1.length : Int) = 1 then (if 0 < (bt908.1.length : Int) then ((tenetref00_EqInts.f k (rd_L8 bt908.1 0) x6).bind fun t913 => (tenetlaw02_GraphCircles.j2 k x0 x1 x5 x6 (!t913))) else (none)) else (tenetlaw02_GraphCircles.j2 k x0 x1 x5 x6 true)) else (tenetlaw02_GraphCircles.j2 k x0 x1 x5 x6 true)))
def tenetlaw02_GraphCircles.j2 : Nat → Int → Int → List (S44) → List Int → Bool → Option (Bool)
 | 0, _, _, _, _, _ => none
 | k + 1, x0, x1, x5, x6, x63 => if x63 = true then (some false) else (if x0 = 0 then (none) else (if (Int.tmod x1 x0) < 0 then (tenetlaw02_GraphCircles.j3 k x0 x5 x6 (wrap64 ((Int.tmod x1 x0) + x0))) else (tenetlaw02_GraphCircles.j3 k x0 x5 x6 (Int.tmod x1 x0))))
def tenetlaw02_GraphCircles.j3 : Nat → Int → List (S44) → List Int → Int → Option (Bool)
 | 0, _, _, _, _ => none
 | k + 1, x0, x5, x6, x10 => (tenetlaw02_at.f x10 1).bind fun bt914 => (if 0 ≤ x10 then (if x10 < (x5.length : Int) then ((some (x5.set (x10 : Int).toNat (⟨(⟨bt914.1, bt914.2⟩ : S41), (⟨(rd_T44 x5 x10).f1.f0, (rd_T44 x5 x10).f1.f1⟩ : S41)⟩ : S44) : List (S44))).bind fun y918 => ((graph_Solve.f k x0 y918).bind fun bt919 => ((graph_Explain.f k x0 y918).bind fun bt923 => (if bt919.2 = 20 then (if bt923.2.1 = true then (if bt923.2.2 = 0 then ((tenetref00_EqInts.f k bt923.1 x6).bind fun t928 => (if t928 = true then ((tenetlaw02_awake.f k).bind fun t929 => (some t929)) else (some false))) else (some false)) else (some false)) else (some false))))) else (none)) else (none))
end
def tenetlaw02_GraphCircles.f (k : Nat) (a0 : Int) (a1 : Int) : Option (Bool) := if a0 < 2 then (tenetlaw02_GraphCircles.j0 k a0 a1 true) else (tenetlaw02_GraphCircles.j0 k a0 a1 (decide (a0 > 1200)))
theorem tenetlaw02_GraphCircles.mono_l : ∀ k, (∀ y0 y1 y2, LeO (tenetlaw02_GraphCircles.j0 k y0 y1 y2) (tenetlaw02_GraphCircles.j0 (k + 1) y0 y1 y2)) ∧ (∀ y0 y1 y2 y3 y4, LeO (tenetlaw02_GraphCircles.l0 k y0 y1 y2 y3 y4) (tenetlaw02_GraphCircles.l0 (k + 1) y0 y1 y2 y3 y4)) ∧ (∀ y0 y1 y2 y3 y4, LeO (tenetlaw02_GraphCircles.j2 k y0 y1 y2 y3 y4) (tenetlaw02_GraphCircles.j2 (k + 1) y0 y1 y2 y3 y4)) ∧ (∀ y0 y1 y2 y3, LeO (tenetlaw02_GraphCircles.j3 k y0 y1 y2 y3) (tenetlaw02_GraphCircles.j3 (k + 1) y0 y1 y2 y3))
 | 0 => ⟨fun _ _ _ r h => by simp [tenetlaw02_GraphCircles.j0] at h, fun _ _ _ _ _ r h => by simp [tenetlaw02_GraphCircles.l0] at h, fun _ _ _ _ _ r h => by simp [tenetlaw02_GraphCircles.j2] at h, fun _ _ _ _ r h => by simp [tenetlaw02_GraphCircles.j3] at h⟩
 | k + 1 => by
  obtain ⟨ih0, ih1, ih2, ih3⟩ := tenetlaw02_GraphCircles.mono_l k
  refine ⟨?_, ?_, ?_, ?_⟩
  ·intro y0 y1 y2
   unfold tenetlaw02_GraphCircles.j0
   repeat' first
   | (with_reducible exact ih0 _ _ _)
   | (with_reducible exact ih1 _ _ _ _ _)
   | (with_reducible exact ih2 _ _ _ _ _)
   | (with_reducible exact ih3 _ _ _ _)
   | (with_reducible exact graph_Classes.mono _ _ _)
   | (with_reducible exact graph_Explain.mono _ _ _)
   | (with_reducible exact graph_Solve.mono _ _ _)
   | (with_reducible exact tenetlaw02_awake.mono _)
   | (with_reducible exact tenetref00_EqInts.mono _ _ _)
   | (with_reducible exact LeO.refl _)
   | (with_reducible exact LeO.none _)
   | (with_reducible refine LeO.ite ?_ ?_)
   | (with_reducible refine LeO.bind ?_ (fun _ => ?_))
   | exact ih0 _ _ _
   | exact ih1 _ _ _ _ _
   | exact ih2 _ _ _ _ _
   | exact ih3 _ _ _ _
   | exact graph_Classes.mono _ _ _
   | exact graph_Explain.mono _ _ _
   | exact graph_Solve.mono _ _ _
   | exact tenetlaw02_awake.mono _
   | exact tenetref00_EqInts.mono _ _ _
   | exact LeO.none _
   | refine LeO.ite ?_ ?_
   | refine LeO.bind ?_ (fun _ => ?_)
  ·intro y0 y1 y2 y3 y4
   unfold tenetlaw02_GraphCircles.l0
   repeat' first
   | (with_reducible exact ih0 _ _ _)
   | (with_reducible exact ih1 _ _ _ _ _)
   | (with_reducible exact ih2 _ _ _ _ _)
   | (with_reducible exact ih3 _ _ _ _)
   | (with_reducible exact graph_Classes.mono _ _ _)
   | (with_reducible exact graph_Explain.mono _ _ _)
   | (with_reducible exact graph_Solve.mono _ _ _)
   | (with_reducible exact tenetlaw02_awake.mono _)
   | (with_reducible exact tenetref00_EqInts.mono _ _ _)
   | (with_reducible exact LeO.refl _)
   | (with_reducible exact LeO.none _)
   | (with_reducible refine LeO.ite ?_ ?_)
   | (with_reducible refine LeO.bind ?_ (fun _ => ?_))
   | exact ih0 _ _ _
   | exact ih1 _ _ _ _ _
   | exact ih2 _ _ _ _ _
   | exact ih3 _ _ _ _
   | exact graph_Classes.mono _ _ _
   | exact graph_Explain.mono _ _ _
   | exact graph_Solve.mono _ _ _
   | exact tenetlaw02_awake.mono _
   | exact tenetref00_EqInts.mono _ _ _
   | exact LeO.none _
   | refine LeO.ite ?_ ?_
   | refine LeO.bind ?_ (fun _ => ?_)
  ·intro y0 y1 y2 y3 y4
   unfold tenetlaw02_GraphCircles.j2
   repeat' first
   | (with_reducible exact ih0 _ _ _)
   | (with_reducible exact ih1 _ _ _ _ _)
   | (with_reducible exact ih2 _ _ _ _ _)
   | (with_reducible exact ih3 _ _ _ _)
   | (with_reducible exact graph_Classes.mono _ _ _)
   | (with_reducible exact graph_Explain.mono _ _ _)
   | (with_reducible exact graph_Solve.mono _ _ _)
   | (with_reducible exact tenetlaw02_awake.mono _)
   | (with_reducible exact tenetref00_EqInts.mono _ _ _)
   | (with_reducible exact LeO.refl _)
   | (with_reducible exact LeO.none _)
   | (with_reducible refine LeO.ite ?_ ?_)
   | (with_reducible refine LeO.bind ?_ (fun _ => ?_))
   | exact ih0 _ _ _
   | exact ih1 _ _ _ _ _
   | exact ih2 _ _ _ _ _
   | exact ih3 _ _ _ _
   | exact graph_Classes.mono _ _ _
   | exact graph_Explain.mono _ _ _
   | exact graph_Solve.mono _ _ _
   | exact tenetlaw02_awake.mono _
   | exact tenetref00_EqInts.mono _ _ _
   | exact LeO.none _
   | refine LeO.ite ?_ ?_
   | refine LeO.bind ?_ (fun _ => ?_)
  ·intro y0 y1 y2 y3
   unfold tenetlaw02_GraphCircles.j3
   repeat' first
   | (with_reducible exact ih0 _ _ _)
   | (with_reducible exact ih1 _ _ _ _ _)
   | (with_reducible exact ih2 _ _ _ _ _)
   | (with_reducible exact ih3 _ _ _ _)
   | (with_reducible exact graph_Classes.mono _ _ _)
   | (with_reducible exact graph_Explain.mono _ _ _)
   | (with_reducible exact graph_Solve.mono _ _ _)
   | (with_reducible exact tenetlaw02_awake.mono _)
   | (with_reducible exact tenetref00_EqInts.mono _ _ _)
   | (with_reducible exact LeO.refl _)
   | (with_reducible exact LeO.none _)
   | (with_reducible refine LeO.ite ?_ ?_)
   | (with_reducible refine LeO.bind ?_ (fun _ => ?_))
   | exact ih0 _ _ _
   | exact ih1 _ _ _ _ _
   | exact ih2 _ _ _ _ _
   | exact ih3 _ _ _ _
   | exact graph_Classes.mono _ _ _
   | exact graph_Explain.mono _ _ _
   | exact graph_Solve.mono _ _ _
   | exact tenetlaw02_awake.mono _
   | exact tenetref00_EqInts.mono _ _ _
   | exact LeO.none _
   | refine LeO.ite ?_ ?_
   | refine LeO.bind ?_ (fun _ => ?_)
theorem tenetlaw02_GraphCircles.mono : ∀ a0 a1 k, LeO (tenetlaw02_GraphCircles.f k a0 a1) (tenetlaw02_GraphCircles.f (k + 1) a0 a1) := by
 intro a0 a1 k
 obtain ⟨ih0, ih1, ih2, ih3⟩ := tenetlaw02_GraphCircles.mono_l k
 unfold tenetlaw02_GraphCircles.f
 repeat' first
   | (with_reducible exact ih0 _ _ _)
   | (with_reducible exact ih1 _ _ _ _ _)
   | (with_reducible exact ih2 _ _ _ _ _)
   | (with_reducible exact ih3 _ _ _ _)
   | (with_reducible exact graph_Classes.mono _ _ _)
   | (with_reducible exact graph_Explain.mono _ _ _)
   | (with_reducible exact graph_Solve.mono _ _ _)
   | (with_reducible exact tenetlaw02_awake.mono _)
   | (with_reducible exact tenetref00_EqInts.mono _ _ _)
   | (with_reducible exact LeO.refl _)
   | (with_reducible exact LeO.none _)
   | (with_reducible refine LeO.ite ?_ ?_)
   | (with_reducible refine LeO.bind ?_ (fun _ => ?_))
   | exact ih0 _ _ _
   | exact ih1 _ _ _ _ _
   | exact ih2 _ _ _ _ _
   | exact ih3 _ _ _ _
   | exact graph_Classes.mono _ _ _
   | exact graph_Explain.mono _ _ _
   | exact graph_Solve.mono _ _ _
   | exact tenetlaw02_awake.mono _
   | exact tenetref00_EqInts.mono _ _ _
   | exact LeO.none _
   | refine LeO.ite ?_ ?_
   | refine LeO.bind ?_ (fun _ => ?_)
def tenetlaw02_GraphCircles.T8 : Bool × List (List Nat × List Nat) := (true, [([], []), ([], []), ([1], [1]), ([], []), ([3], [3]), ([], []), ([4, 5], [4, 5]), ([6, 2], [6]), ([2, 7], [2, 7]), ([8], [8]), ([0, 9, 7], [0, 9]), ([10, 10, 0, 1, 2, 3, 4, 5, 6, 7, 8, 9, 10], [0, 10])])
def tenetlaw02_GraphCircles.B8 : List Nat := [0, 0, 2, 0, 8, 0, 56, 126, 254, 510, 1023, 2047]
theorem tenetlaw02_GraphCircles.tab8 : rtab .any (opsOf Try.f18 8) = tenetlaw02_GraphCircles.T8 := by kernel_rfl
theorem tenetlaw02_GraphCircles.bits8 : waitsOk tenetlaw02_GraphCircles.T8.2 tenetlaw02_GraphCircles.B8 = true := by kernel_rfl
set_option maxHeartbeats 8000000 in
set_option maxRecDepth 100000 in
theorem tenetlaw02_GraphCircles.calls (k : Nat) (a0 : Int) (a1 : Int) (r : Bool) (w : World) (h : tenetlaw02_GraphCircles.f k a0 a1 = some r) :
  Calls Try.prog 18 #[.int .i64 a0, .int .i64 a1] w fun e w' => e = .returned (.bool r) ∧ Below w.heap.size w w' := by
 have hu44 := Try.underlying44
 have hu41 := Try.underlying41
 have HB := Aside0.mk (Below.refl w.heap.size w)
 have H : (if a0 < 2 then (tenetlaw02_GraphCircles.j0 k a0 a1 true) else (tenetlaw02_GraphCircles.j0 k a0 a1 (decide (a0 > 1200)))) = some r := h
 clear h
 have HC3 := Aside0.mk H
 clear H
 go_enter Try.func18, Try.ntmps18
 go_upto_region 1 with (fail)
 go_cut [21] (fun v21 wc => ∃ (kq : Nat) (x21_2 : Bool), v21 = .bool x21_2 ∧ Aside0 (tenetlaw02_GraphCircles.j0 kq a0 a1 x21_2 = some r) ∧ Aside0 (kq ≤ k) ∧ Aside0 (Below w.heap.size w wc))
 case first =>
  have H := HC3.out
  clear HC3
  by_cases c4 : a0 < 2
  ·rw [if_pos c4] at H
   have c4b0 : decide (a0 < 2) = true := decide_eq_true c4
   clear c4
   (first | rw [c4b0] | (simp only [i64_w, i32_w]; rw [c4b0]) | skip)
   have H' := Aside0.mk H
   clear H
   go_wp2
   go_meet
   case rel => exact ⟨_, (true), (by first | rfl | (simp; done) | (simp [*]; done)), H', ⟨by first | omega | exact Nat.le_refl _⟩, ⟨by repeat (first | (with_reducible first | exact HB.out | apply below_alloc | apply pw_below_drewN | apply below_drew1) | exact HB.out)⟩⟩
  ·rw [if_neg c4] at H
   have c4b0 : decide (a0 < 2) = false := decide_eq_false c4
   clear c4
   (first | rw [c4b0] | (simp only [i64_w, i32_w]; rw [c4b0]) | skip)
   have H' := Aside0.mk H
   clear H
   go_wp2
   go_meet
   case rel => exact ⟨_, (decide (a0 > 1200)), (by first | rfl | (simp; done) | (simp [*]; done)), H', ⟨by first | omega | exact Nat.le_refl _⟩, ⟨by repeat (first | (with_reducible first | exact HB.out | apply below_alloc | apply pw_below_drewN | apply below_drew1) | exact HB.out)⟩⟩
 case rest =>
  clear HC3
  try clear c1
  try clear p2
  try clear c4
  try clear c4b0
  obtain ⟨kq, x21_2, rfl, HA, HJ2, HB⟩ := hcut
  cases kq with
  | zero => exact absurd HA.out (by simp [tenetlaw02_GraphCircles.j0])
  | succ kj2 =>
   have H := HA.out
   clear HA
   simp only [tenetlaw02_GraphCircles.j0] at H
   by_cases c5 : x21_2 = true
   ·subst c5
    have H1 : ((tenetlaw02_awake.f kj2).bind fun t893 => (some t893)) = some r := by rw [if_pos rfl] at H; exact H
    clear H
    have H := H1
    clear H1
    replace H := Option.bind_eq_some_iff.mp H
    obtain ⟨t893, A60, H⟩ := H
    replace H : (some t893) = some r := H
    have A6 := Aside0.mk A60
    clear A60
    obtain rfl := Option.some.inj H
    go_wp2_with (first | ((with_reducible refine gate_callee (f := 21) rfl ?_); refine goesL_ (some 22) rfl rfl Try.func21 (by kernel_rfl) rfl #[] rfl (by (try simp only [List.map_toArray, List.map_cons, List.map_nil]); first | done | rfl | (simp only [List.length_drop, List.length_take]; rfl)) ?_; (with_reducible refine (tenetlaw02_awake.calls kj2  t893 _ A6.out).mono ?_); rintro e w7 ⟨rfl, hb⟩; refine ⟨_, rfl, ?_⟩; have n0_ := Aside0.mk (below_step (by repeat (first | (with_reducible first | exact HB.out | apply below_alloc | apply pw_below_drewN | apply below_drew1) | exact HB.out)) hb); clear HB; have HB := n0_; clear n0_; (try clear hb); (try clear hb2); (try clear hk); (try clear hi)))
    go_ret
    exact ⟨by first | rfl | (simp [errW_none, errW_some] <;> rfl) | (simp [*, errW_none, errW_some] <;> rfl), by repeat (first | (with_reducible first | exact HB.out | apply below_alloc | apply pw_below_drewN | apply below_drew1) | exact HB.out)⟩
   ·replace c5 := Bool.eq_false_iff.mpr c5
    subst c5
    have H1 : (tenetlaw02_GraphCircles.l0 kj2 a0 a1 ([] : List (S44)) ([] : List Int) 0) = some r := by rw [if_neg (show ¬ (false = true) by decide)] at H; exact H
    clear H
    have H := H1
    clear H1
    have H' := Aside0.mk H
    clear H
    go_wp2
    go_loopg [5, 6, 7] kj2 (fun kq v5 v6 v7 w' => ∃ (x5_2 : List (S44)) (x6_2 : List Int) (x7_2 : Int), v7 = .int .i64 x7_2 ∧ Aside0 (tenetlaw02_GraphCircles.l0 kq a0 a1 x5_2 x6_2 x7_2 = some r) ∧ Aside0 (kq ≤ kj2) ∧ Aside0 (Kd.S k44 44 w' w.heap.size (fun _ => True) v5 x5_2) ∧ Aside0 (Kd.R (Kd.int .i64) 3 w' w.heap.size (fun _ => True) v6 x6_2) ∧ Aside0 (Below w.heap.size w w'))
    case atStart => exact ⟨(([] : List (S44))), (([] : List Int)), (0), (by first | rfl | (simp; done) | (simp [*]; done)), H', ⟨Nat.le_refl _⟩, ⟨by first | exact Kd.S_nil _ _ _ _ _ | exact Kd.N_nil _ _ _ _ _ | exact Kd.V_nil _ _ _ _ _ | exact Kd.Q_nil _ _ _ _ _ | exact Kd.R_nil _ _ _ _ _⟩, ⟨by first | exact Kd.R_nil _ _ _ _ _ | exact Kd.N_nil _ _ _ _ _ | exact Kd.V_nil _ _ _ _ _ | exact Kd.Q_nil _ _ _ _ _ | exact Kd.S_nil _ _ _ _ _⟩, ⟨by repeat (first | (with_reducible first | exact HB.out | apply below_alloc | apply pw_below_drewN | apply below_drew1) | exact HB.out)⟩⟩
    case round =>
     clear H'
     try clear c1
     try clear c2
     try clear p2
     try clear c4
     try clear c4b0
     try clear c5
     try clear p2
     obtain ⟨x5_2, x6_2, x7_2, rfl, HA, HK2, HO_5, HO_6, HB⟩ := hrel
     cases gk with
     | zero => exact absurd HA.out (by simp [tenetlaw02_GraphCircles.l0])
     | succ k2 =>
      have H := HA.out
      clear HA
      simp only [tenetlaw02_GraphCircles.l0] at H
      by_cases c8 : x7_2 < a0
      ·rw [if_pos c8] at H
       have c8b0 : decide (x7_2 < a0) = true := decide_eq_true c8
       clear c8
       replace H := Option.bind_eq_some_iff.mp H
       obtain ⟨⟨t894, t895⟩, A90, H⟩ := H
       replace H : (if a0 = 0 then (none) else ((tenetlaw02_at.f (Int.tmod (wrap64 (x7_2 + 1)) a0) 0).bind fun bt898 => (if x5_2.length < 2199023255552 then (if x6_2.length < 17592186044416 then (tenetlaw02_GraphCircles.l0 k2 a0 a1 (x5_2 ++ [(⟨(⟨t894, t895⟩ : S41), (⟨bt898.1, bt898.2⟩ : S41)⟩ : S44)]) (x6_2 ++ [x7_2]) (wrap64 (x7_2 + 1))) else (none)) else (none)))) = some r := H
       have A9 := Aside0.mk A90
       clear A90
       by_cases c10 : a0 = 0
       ·rw [if_pos c10] at H
        exact absurd H (by simp)
       ·rw [if_neg c10] at H
        have c10b0 : (a0 == 0) = false := beq_eq_false_iff_ne.mpr c10
        have c10b1 : (a0 != 0) = true := bne_iff_ne.mpr c10
        replace H := Option.bind_eq_some_iff.mp H
        obtain ⟨⟨t898, t899⟩, A110, H⟩ := H
        replace H : (if x5_2.length < 2199023255552 then (if x6_2.length < 17592186044416 then (tenetlaw02_GraphCircles.l0 k2 a0 a1 (x5_2 ++ [(⟨(⟨t894, t895⟩ : S41), (⟨t898, t899⟩ : S41)⟩ : S44)]) (x6_2 ++ [x7_2]) (wrap64 (x7_2 + 1))) else (none)) else (none)) = some r := H
        have A11 := Aside0.mk A110
        clear A110
        by_cases c12 : x5_2.length < 2199023255552
        ·rw [if_pos c12] at H
         have LMc12 := Aside0.mk c12
         clear c12
         obtain ⟨y902, hy902⟩ : ∃ y_ : List (S44), y_ = (x5_2 ++ [(⟨(⟨t894, t895⟩ : S41), (⟨t898, t899⟩ : S41)⟩ : S44)]) := ⟨_, rfl⟩
         replace H : (if x6_2.length < 17592186044416 then (tenetlaw02_GraphCircles.l0 k2 a0 a1 y902 (x6_2 ++ [x7_2]) (wrap64 (x7_2 + 1))) else (none)) = some r := by first | (rw [hy902]; with_reducible exact H) | (have H2_ := (Option.bind_some _ _).symm.trans H; rw [hy902]; with_reducible exact H2_) | (have H2_ := (Option.bind_some _ _).symm.trans H; with_reducible exact H2_) | with_reducible exact H | (rw [hy902]; exact H) | exact H
         have Ny902 := Aside0.mk hy902
         clear hy902
         by_cases c13 : x6_2.length < 17592186044416
         ·rw [if_pos c13] at H
          have LMc13 := Aside0.mk c13
          clear c13
          obtain ⟨y905, hy905⟩ : ∃ y_ : List Int, y_ = (x6_2 ++ [x7_2]) := ⟨_, rfl⟩
          replace H : (tenetlaw02_GraphCircles.l0 k2 a0 a1 y902 y905 (wrap64 (x7_2 + 1))) = some r := by first | (rw [hy905]; with_reducible exact H) | (have H2_ := (Option.bind_some _ _).symm.trans H; rw [hy905]; with_reducible exact H2_) | (have H2_ := (Option.bind_some _ _).symm.trans H; with_reducible exact H2_) | with_reducible exact H | (rw [hy905]; exact H) | exact H
          have Ny905 := Aside0.mk hy905
          clear hy905
          have H' := Aside0.mk H
          clear H
          try go_wp2
          have n0_ := Aside0.mk (Kd.S_drew HO_5.out)
          have n1_ := Aside0.mk (Kd.R_drew HO_6.out)
          have n2_ := Aside0.mk (below_drew1 HB.out)
          clear HO_5
          clear HO_6
          clear HB
          have HO_5 := n0_
          have HO_6 := n1_
          have HB := n2_
          clear n0_ n1_ n2_
          refine start_ (n := 12) (S := fun w' => True) (ds := []) #[false, false, false, false, false, false, false, false, false, false, false, false] (by kernel_rfl) rfl rfl trivial (fun hHeld => ?_); refine with_tabW tenetlaw02_GraphCircles.tab8 tenetlaw02_GraphCircles.bits8 (fun HT_ HW_ => ?_)
          generalize wr.drew = w14 at HO_5 HO_6 HB hHeld ⊢
          refine pure_ (i := 0) (N := some 28) (v := ?_) (a' := ?_) #[true, false, false, false, false, false, false, false, false, false, false, false] rfl rfl (any_of HT_.out (by kernel_rfl)) (fun _ _ _ h => h) (Or.inl ⟨by rfl, ?_⟩) ?_ ?_
          rotate_left
          ·intro w'
           go_simp
           with_reducible rfl
          rotate_left
          ·simp only [Act.put, List.setIfInBounds_toArray, List.set_cons_zero, List.set_cons_succ, i64_w, i32_w]
           rfl
          refine pure_ (i := 1) (N := some 29) (v := ?_) (a' := ?_) #[true, true, false, false, false, false, false, false, false, false, false, false] rfl rfl (any_of HT_.out (by kernel_rfl)) (fun _ _ _ h => h) (Or.inl ⟨by rfl, ?_⟩) ?_ ?_
          rotate_left
          ·intro w'
           go_simp
           with_reducible rfl
          rotate_left
          ·simp only [Act.put, List.setIfInBounds_toArray, List.set_cons_zero, List.set_cons_succ, i64_w, i32_w]
           rfl
          refine pure_ (i := 3) (N := some 31) (v := ?_) (a' := ?_) #[true, true, false, true, false, false, false, false, false, false, false, false] rfl rfl (any_of HT_.out (by kernel_rfl)) (fun _ _ _ h => h) (Or.inl ⟨by rfl, ?_⟩) ?_ ?_
          rotate_left
          ·intro w'
           go_simp
           with_reducible rfl
          rotate_left
          ·simp only [Act.put, List.setIfInBounds_toArray, List.set_cons_zero, List.set_cons_succ, i64_w, i32_w]
           rfl
          refine pure_ (i := 4) (N := some 32) (v := ?_) (a' := ?_) #[true, true, false, true, true, false, false, false, false, false, false, false] rfl rfl (any_of HT_.out (by kernel_rfl)) (fun _ _ _ h => h) (Or.inl ⟨by rfl, ?_⟩) ?_ ?_
          rotate_left
          ·intro w'
           go_simp
           with_reducible rfl
          rotate_left
          ·simp only [Act.put, List.setIfInBounds_toArray, List.set_cons_zero, List.set_cons_succ, i64_w, i32_w]
           rfl
          refine pure_ (i := 5) (N := some 33) (v := ?_) (a' := ?_) #[true, true, false, true, true, true, false, false, false, false, false, false] rfl rfl (any_of HT_.out (by kernel_rfl)) (fun _ _ _ h => h) (Or.inl ⟨by rfl, ?_⟩) ?_ ?_
          rotate_left
          ·intro w'
           go_simp
           with_reducible rfl
          rotate_left
          ·simp only [Act.put, List.setIfInBounds_toArray, List.set_cons_zero, List.set_cons_succ, i64_w, i32_w]
           rfl
          refine pure_ (i := 6) (N := some 34) (v := ?_) (a' := ?_) #[true, true, false, true, true, true, true, false, false, false, false, false] rfl rfl (any_of HT_.out (by kernel_rfl)) (fun _ _ _ h => h) (Or.inl ⟨by rfl, ?_⟩) ?_ ?_
          rotate_left
          ·intro w'
           go_simp
           with_reducible rfl
          rotate_left
          ·simp only [Act.put, List.setIfInBounds_toArray, List.set_cons_zero, List.set_cons_succ, i64_w, i32_w]
           rfl
          refine one_ (i := 2) (N := some 30) #[true, true, true, true, true, true, true, false, false, false, false, false] rfl rfl (one_of HT_.out (by kernel_rfl)) (by decide) (fun K hK => ?_)
          refine goes_ Try.func32 (by kernel_rfl) rfl #[.int .i64 x7_2, .int .i64 0] (by rfl) rfl rfl (by (try simp only [List.map_toArray, List.map_cons, List.map_nil]); first | done | rfl | (simp only [List.length_drop, List.length_take]; rfl)) ?_
          with_reducible refine (tenetlaw02_at.calls x7_2 0 t894 t895 _ A9.out).mono ?_
          rintro e w15 ⟨v896, rfl, ho0, hb⟩
          refine ⟨_, rfl, ?_⟩
          have n0_ := Aside0.mk (Kd.S_elder' (by (with_reducible repeat (first | apply Kd.S_alloc | apply Kd.S_drewN | apply Kd.S_drew)); exact HO_5.out) (Kd.R_base ho0) hb)
          have n1_ := Aside0.mk (Kd.R_below (by (with_reducible repeat (first | apply Kd.R_alloc | apply Kd.R_drewN | apply Kd.R_drew)); exact HO_6.out) hb)
          have n2_ := Aside0.mk (Kd.R_lower ho0 (below_size (by repeat (first | (with_reducible first | exact HB.out | apply below_alloc | apply pw_below_drewN | apply below_drew1) | exact HB.out))))
          have n3_ := Aside0.mk (below_step (by repeat (first | (with_reducible first | exact HB.out | apply below_alloc | apply pw_below_drewN | apply below_drew1) | exact HB.out)) hb)
          clear HO_5
          clear HO_6
          clear HB
          have HO_5 := n0_
          have HO_6 := n1_
          have HO897 := n2_
          have HB := n3_
          clear n0_ n1_ n2_ n3_
          (try clear hb)
          (try clear hb2)
          (try clear hk)
          (try clear hi)
          (try clear ho0)
          refine hK.out _ _ trivial (fun hHeld => ?_)
          clear hK K
          refine norm_ (a' := ?_) ?_ ?_
          rotate_left
          ·show Act.put _ (some 30) _ = _
           simp only [Act.put, List.setIfInBounds_toArray, List.set_cons_zero, List.set_cons_succ, i64_w, i32_w]
           rfl
          refine one_ (i := 7) (N := some 35) #[true, true, true, true, true, true, true, true, false, false, false, false] rfl rfl (one_of HT_.out (by kernel_rfl)) (by decide) (fun K hK => ?_)
          refine goes_ Try.func32 (by kernel_rfl) rfl #[.int .i64 (Int.tmod (wrap64 (x7_2 + 1)) a0), .int .i64 0] (by rfl) rfl rfl (by (try simp only [List.map_toArray, List.map_cons, List.map_nil]); first | done | rfl | (simp only [List.length_drop, List.length_take]; rfl)) ?_
          with_reducible refine (tenetlaw02_at.calls (Int.tmod (wrap64 (x7_2 + 1)) a0) 0 t898 t899 _ A11.out).mono ?_
          rintro e w16 ⟨v900, rfl, ho0, hb⟩
          refine ⟨_, rfl, ?_⟩
          have n0_ := Aside0.mk (Kd.S_elder' (by (with_reducible repeat (first | apply Kd.S_alloc | apply Kd.S_drewN | apply Kd.S_drew)); exact HO_5.out) (Kd.R_base ho0) hb)
          have n1_ := Aside0.mk (Kd.R_below (by (with_reducible repeat (first | apply Kd.R_alloc | apply Kd.R_drewN | apply Kd.R_drew)); exact HO_6.out) hb)
          have n2_ := Aside0.mk (Kd.R_elder' (by (with_reducible repeat (first | apply Kd.R_alloc | apply Kd.R_drewN | apply Kd.R_drew)); exact HO897.out) (Kd.R_base ho0) hb)
          have n3_ := Aside0.mk (Kd.R_lower (Kd.R_new' ho0 (Kd.R_lt (by (with_reducible repeat (first | apply Kd.R_alloc | apply Kd.R_drewN | apply Kd.R_drew)); exact HO897.out))) (below_size (by repeat (first | (with_reducible first | exact HB.out | apply below_alloc | apply pw_below_drewN | apply below_drew1) | exact HB.out))))
          have n4_ := Aside0.mk (below_step (by repeat (first | (with_reducible first | exact HB.out | apply below_alloc | apply pw_below_drewN | apply below_drew1) | exact HB.out)) hb)
          clear HO_5
          clear HO_6
          clear HO897
          clear HB
          have HO_5 := n0_
          have HO_6 := n1_
          have HO897 := n2_
          have HO901 := n3_
          have HB := n4_
          clear n0_ n1_ n2_ n3_ n4_
          (try clear hb)
          (try clear hb2)
          (try clear hk)
          (try clear hi)
          (try clear ho0)
          obtain ⟨Ao17, co17, eo17⟩ := Kd.R_slice HO901.out
          (first | subst eo17 | (injection eo17 with f1_ f2_ f3_; have f4_ := f1_.symm; have f5_ := f3_.symm; clear f1_ f2_ f3_; subst f4_; subst f5_))
          obtain ⟨Ao18, co18, eo18⟩ := Kd.R_slice HO897.out
          (first | subst eo18 | (injection eo18 with f1_ f2_ f3_; have f4_ := f1_.symm; have f5_ := f3_.symm; clear f1_ f2_ f3_; subst f4_; subst f5_))
          refine hK.out _ _ trivial (fun hHeld => ?_)
          clear hK K
          refine norm_ (a' := ?_) ?_ ?_
          rotate_left
          ·show Act.put _ (some 35) _ = _
           simp only [Act.put, List.setIfInBounds_toArray, List.set_cons_zero, List.set_cons_succ, i64_w, i32_w]
           rfl
          refine pure_ (i := 8) (N := some 36) (v := ?_) (a' := ?_) #[true, true, true, true, true, true, true, true, true, false, false, false] rfl rfl (any_of HT_.out (by kernel_rfl)) (fun _ _ _ h => h) (Or.inl ⟨by rfl, ?_⟩) ?_ ?_
          rotate_left
          ·intro w'
           go_simp
           with_reducible rfl
          rotate_left
          ·simp only [Act.put, List.setIfInBounds_toArray, List.set_cons_zero, List.set_cons_succ, i64_w, i32_w]
           rfl
          refine one_ (i := 9) (N := some 37) #[true, true, true, true, true, true, true, true, true, true, false, false] rfl rfl (one_of HT_.out (by kernel_rfl)) (by decide) (fun K hK => ?_)
          refine value_ (w1 := ?_) (v := ?_) (by rfl) rfl ?_ ?_
          rotate_left 2
          ·go_simp
           constructor
           ·rfl
           ·rfl
          refine hK.out _ _ trivial (fun hHeld => ?_)
          clear hK K
          refine norm_ (a' := ?_) ?_ ?_
          rotate_left
          ·show Act.put _ (some 37) _ = _
           simp only [Act.put, List.setIfInBounds_toArray, List.set_cons_zero, List.set_cons_succ, i64_w, i32_w]
           rfl
          refine one_ (i := 10) (N := some 38) #[true, true, true, true, true, true, true, true, true, true, true, false] rfl rfl (one_of HT_.out (by kernel_rfl)) (by decide) (fun K hK => ?_)
          refine Kd.S_append_step k44 (w0 := w) w.heap.size (by rfl) (.tmp 28) (.tmp 37) 22 44 (.agg #[(.int .i64 0), (.slice none 0 0), (.int .i64 0), (.slice none 0 0)]) 64 rfl Try.underlying22 info44 rfl (by decide) (by omega) u5 x5_2 (⟨(⟨t894, t895⟩ : S41), (⟨t898, t899⟩ : S41)⟩ : S44) [.int .i64 t894, .slice Ao18 t895.length co18, .int .i64 t898, .slice Ao17 t899.length co17] (fun _ => True) (fun k_ => some k_ = (.slice Ao18 t895.length co18 : Value).ownBlock ∨ some k_ = (.slice Ao17 t899.length co17 : Value).ownBlock) rfl rfl ?aP (fun k_ hk_ => hk_.elim (fun h_ => ((Kd.R_mono (ok' := fun k_ => ((fun _ => True)) k_ ∧ some k_ ≠ (u5 : Value).ownBlock) (Kd.R_apart' (HO897.out) (Kd.S_typed HO_5.out) (by decide)) (fun k_ hk => ⟨trivial, hk.2⟩))).1 k_ h_.symm) (fun h_ => ((Kd.R_mono (ok' := fun k_ => ((fun _ => True)) k_ ∧ some k_ ≠ (u5 : Value).ownBlock) (Kd.R_apart' (HO901.out) (Kd.S_typed HO_5.out) (by decide)) (fun k_ hk => ⟨trivial, hk.2⟩))).1 k_ h_.symm)) ?aF ?aO ?aB ?aS ?aL ?_
          (case aP => exact k44_mkM _ _ _ (⟨(⟨t894, t895⟩ : S41), (⟨t898, t899⟩ : S41)⟩ : S44) (Kd.R_mono (Kd.R_tight rfl (Kd.R_mono (ok' := fun k_ => ((fun _ => True)) k_ ∧ some k_ ≠ (u5 : Value).ownBlock) (Kd.R_apart' (HO897.out) (Kd.S_typed HO_5.out) (by decide)) (fun k_ hk => ⟨trivial, hk.2⟩))) (fun _ h_ => Or.inl h_)) (Kd.R_mono (Kd.R_tight rfl (Kd.R_mono (ok' := fun k_ => ((fun _ => True)) k_ ∧ some k_ ≠ (u5 : Value).ownBlock) (Kd.R_apart' (HO901.out) (Kd.S_typed HO_5.out) (by decide)) (fun k_ hk => ⟨trivial, hk.2⟩))) (fun _ h_ => Or.inr (h_))))
          (case aB => exact (by repeat (first | (with_reducible first | exact HB.out | apply below_alloc | apply pw_below_drewN | apply below_drew1) | exact HB.out)))
          (case aF => exact (fun _ _ => trivial))
          (case aO => exact (by (with_reducible repeat (first | apply Kd.S_alloc | apply Kd.S_drewN | apply Kd.S_drew)); exact Kd.S_mono HO_5.out (fun k_ hk => ⟨trivial, fun e_ => e_.elim (fun h_ => hk.1.2 h_) (fun h_ => hk.2 h_)⟩)))
          (case aS => exact (below_size (by repeat (first | (with_reducible first | exact HB.out | apply below_alloc | apply pw_below_drewN | apply below_drew1) | exact HB.out))))
          (case aL => have := LMc12.out; omega)
          intro v903 w19 ho hb hg hat
          rw [← Ny902.out] at ho
          have n0_ := Aside0.mk (Kd.R_over' (by (with_reducible repeat (first | apply Kd.R_alloc | apply Kd.R_drewN | apply Kd.R_drew)); exact HO_6.out) (Kd.S_typed (by (with_reducible repeat (first | apply Kd.S_alloc | apply Kd.S_drewN | apply Kd.S_drew)); exact HO_5.out)) (by decide) hg)
          have n1_ := Aside0.mk (hb)
          have n2_ := Aside0.mk (ho)
          clear HO_6
          clear HB
          clear HO_5
          clear HO897
          clear HO901
          have HO_6 := n0_
          have HB := n1_
          have HO904 := n2_
          clear n0_ n1_ n2_
          clear ho hb hg hat
          refine hK.out _ _ trivial (fun hHeld => ?_)
          clear hK K
          refine norm_ (a' := ?_) ?_ ?_
          rotate_left
          ·show Act.put _ (some 38) _ = _
           simp only [Act.put, List.setIfInBounds_toArray, List.set_cons_zero, List.set_cons_succ, i64_w, i32_w]
           rfl
          refine pure_ (i := 11) (N := some 5) (v := ?_) (a' := ?_) #[true, true, true, true, true, true, true, true, true, true, true, true] rfl rfl (any_of HT_.out (by kernel_rfl)) (fun _ _ _ h => h) (Or.inl ⟨by rfl, ?_⟩) ?_ ?_
          rotate_left
          ·intro w'
           go_simp
           with_reducible rfl
          rotate_left
          ·simp only [Act.put, List.setIfInBounds_toArray, List.set_cons_zero, List.set_cons_succ, i64_w, i32_w]
           rfl
          refine done_ (done_of HT_.out (by kernel_rfl)) ?_
          try go_wp2_with (first | ((with_reducible refine gate_builtin (b := .append) (xs := #[.tmp 39, .tmp 41]) rfl ?_); (try (refine gate_guard (by rfl) ?_; dsimp only)); at_builtin; refine Kd.R_append (Kd.int .i64) (w0 := w) w.heap.size rfl (.tmp 39) (.tmp 41) 25 3 (.int .i64 0) 8 rfl Try.underlying25 info3 rfl (by decide) (by omega) u6 x6_2 x7_2 [.int .i64 x7_2] (fun _ => True) (fun _ => False) rfl rfl ?aP (fun _ hk => hk.elim) ?aF ?aO ?aB ?aS ?aL ?_; (case aP => exact rfl); (case aB => exact (by repeat (first | (with_reducible first | exact HB.out | apply below_alloc | apply pw_below_drewN | apply below_drew1) | exact HB.out))); (case aF => exact (fun _ _ => trivial)); (case aO => exact (by (with_reducible repeat (first | apply Kd.R_alloc | apply Kd.R_drewN | apply Kd.R_drew)); exact HO_6.out)); (case aS => exact (below_size (by repeat (first | (with_reducible first | exact HB.out | apply below_alloc | apply pw_below_drewN | apply below_drew1) | exact HB.out)))); (case aL => have := LMc13.out; omega); intro v906 w20 ho hb hg hat; rw [← Ny905.out] at ho; have n0_ := Aside0.mk (Kd.S_over' (by (with_reducible repeat (first | apply Kd.S_alloc | apply Kd.S_drewN | apply Kd.S_drew)); exact HO904.out) (Kd.R_typed (by (with_reducible repeat (first | apply Kd.R_alloc | apply Kd.R_drewN | apply Kd.R_drew)); exact HO_6.out)) (by decide) hg); have n1_ := Aside0.mk (hb); have n2_ := Aside0.mk (ho); clear HO904; clear HB; clear HO_6; have HO904 := n0_; have HB := n1_; have HO907 := n2_; clear n0_ n1_ n2_; clear ho hb hg hat))
          go_roundg k2
          case measure => have := HJ2.out; have := HK2.out; omega
          case rel => exact ⟨(y902), (y905), (wrap64 (x7_2 + 1)), (by first | rfl | (simp; done) | (simp [*]; done)), H', ⟨by have := HJ2.out; have := HK2.out; omega⟩, ⟨by (with_reducible repeat (first | apply Kd.S_alloc | apply Kd.S_drewN | apply Kd.S_drew)); exact HO904.out⟩, ⟨by (with_reducible repeat (first | apply Kd.R_alloc | apply Kd.R_drewN | apply Kd.R_drew)); exact HO907.out⟩, ⟨by repeat (first | (with_reducible first | exact HB.out | apply below_alloc | apply pw_below_drewN | apply below_drew1) | exact HB.out)⟩⟩
         ·rw [if_neg c13] at H
          exact absurd H (by simp)
        ·rw [if_neg c12] at H
         exact absurd H (by simp)
      ·rw [if_neg c8] at H
       have c8b0 : decide (x7_2 < a0) = false := decide_eq_false c8
       clear c8
       replace H := Option.bind_eq_some_iff.mp H
       obtain ⟨⟨t908, t909⟩, A210, H⟩ := H
       replace H : (if t909 = 0 then (if (t908.length : Int) = 1 then (if 0 < (t908.length : Int) then ((tenetref00_EqInts.f k2 (rd_L8 t908 0) x6_2).bind fun t913 => (tenetlaw02_GraphCircles.j2 k2 a0 a1 x5_2 x6_2 (!t913))) else (none)) else (tenetlaw02_GraphCircles.j2 k2 a0 a1 x5_2 x6_2 true)) else (tenetlaw02_GraphCircles.j2 k2 a0 a1 x5_2 x6_2 true)) = some r := H
       have A21 := Aside0.mk A210
       clear A210
       have HC22 := Aside0.mk H
       clear H
       obtain ⟨Ao23, co23, eo23⟩ := Kd.S_slice HO_5.out
       subst eo23
       go_upto_region 11 with (first | ((with_reducible refine gate_callee (f := 38) rfl ?_); refine goesL_ (some 46) rfl rfl Try.func38 (by kernel_rfl) rfl #[.int .i64 a0, .slice Ao23 x5_2.length co23] rfl (by (try simp only [List.map_toArray, List.map_cons, List.map_nil]); first | done | rfl | (simp only [List.length_drop, List.length_take]; rfl)) ?_; (with_reducible refine (graph_Classes.calls k2 a0 _ _ x5_2 t908 t909 _ ?side1 ?side2 A21.out).mono ?_); (case side1 => repeat (first | exact (Kd.S_reads' HO_5.out).2.2 | (with_reducible refine Kd.C_alloc ?_ _) | (with_reducible refine Kd.C_drewN ?_ _) | (with_reducible refine Kd.C_drew ?_))); (case side2 => exact (Kd.S_reads' HO_5.out).2.1); rintro e w24 ⟨v910, rfl, ho0, hb⟩; refine ⟨_, rfl, ?_⟩; have n0_ := Aside0.mk (Kd.S_below (by (with_reducible repeat (first | apply Kd.S_alloc | apply Kd.S_drewN | apply Kd.S_drew)); exact HO_5.out) hb); have n1_ := Aside0.mk (Kd.R_below (by (with_reducible repeat (first | apply Kd.R_alloc | apply Kd.R_drewN | apply Kd.R_drew)); exact HO_6.out) hb); have n2_ := Aside0.mk (Kd.S_lower (Kd.S_new' ho0 (Kd.R_lt (by (with_reducible repeat (first | apply Kd.R_alloc | apply Kd.R_drewN | apply Kd.R_drew)); exact HO_6.out))) (below_size (by repeat (first | (with_reducible first | exact HB.out | apply below_alloc | apply pw_below_drewN | apply below_drew1) | exact HB.out)))); have n3_ := Aside0.mk (below_step (by repeat (first | (with_reducible first | exact HB.out | apply below_alloc | apply pw_below_drewN | apply below_drew1) | exact HB.out)) hb); clear HO_5; clear HO_6; clear HB; have HO_5 := n0_; have HO_6 := n1_; have HO911 := n2_; have HB := n3_; clear n0_ n1_ n2_ n3_; (try clear hb); (try clear hb2); (try clear hk); (try clear hi); (try clear ho0)))
       (try simp only [Act.put, List.setIfInBounds_toArray, List.set_cons_zero, List.set_cons_succ])
       go_cut [63] (fun v63 wc => ∃ (kq : Nat) (x63_21 : Bool), v63 = .bool x63_21 ∧ Aside0 (tenetlaw02_GraphCircles.j2 kq a0 a1 x5_2 x6_2 x63_21 = some r) ∧ Aside0 (kq ≤ k2) ∧ Aside0 (Kd.S k44 44 wc w.heap.size (fun _ => True) (.slice Ao23 x5_2.length co23) x5_2) ∧ Aside0 (Kd.R (Kd.int .i64) 3 wc w.heap.size (fun _ => True) u6 x6_2) ∧ Aside0 (Below w.heap.size w wc))
       case first =>
        have H := HC22.out
        clear HC22
        by_cases c25 : t909 = 0
        ·rw [if_pos c25] at H
         have c25b0 : (t909 == 0) = true := beq_iff_eq.mpr c25
         have c25b1 : (t909 != 0) = false := bne_eq_false_iff_eq.mpr c25
         clear c25
         (first | rw [c25b0] | (simp only [i64_w, i32_w]; rw [c25b0]) | skip)
         by_cases c26 : (t908.length : Int) = 1
         ·rw [if_pos c26] at H
          have c26b0 : ((t908.length : Int) == 1) = true := beq_iff_eq.mpr c26
          have c26b1 : ((t908.length : Int) != 1) = false := bne_eq_false_iff_eq.mpr c26
          clear c26
          by_cases c27 : 0 < (t908.length : Int)
          ·rw [if_pos c27] at H
           have c27b0 : decide (0 < (t908.length : Int)) = true := decide_eq_true c27
           have c27b1 : decide (0 < t908.length) = true := decide_eq_true (by omega)
           clear c27
           replace H := Option.bind_eq_some_iff.mp H
           obtain ⟨t913, A280, H⟩ := H
           replace H : (tenetlaw02_GraphCircles.j2 k2 a0 a1 x5_2 x6_2 (!t913)) = some r := H
           have A28 := Aside0.mk A280
           clear A280
           have H' := Aside0.mk H
           clear H
           obtain ⟨Ao29, co29, eo29⟩ := Kd.S_slice HO911.out
           subst eo29
           have p912 : 0 ≤ (0 : Int) := (by omega)
           have q912 : 0 < (t908.length : Int) := of_decide_eq_true (by first | (with_reducible assumption) | assumption)
           obtain ⟨ad912, A912_0, c912_0, e912, hx912_0, hl912_0, hi912_0⟩ := at_L8 (Kd.S_reads' HO911.out).2.2 0 p912 q912
           cases e912
           obtain ⟨ce912, hce912, hMe912, hcc912⟩ := Kd.S_get HO911.out [] 0 p912 (by first | exact q912 | exact of_decide_eq_true (by first | (with_reducible assumption) | assumption) | (have e_ := (Kd.S_reads' HO911.out).1; omega))
           obtain ⟨ve912_0, rfl, ge912_0⟩ := hMe912
           have hv912_0 := hcc912 0 _ rfl
           rw [Nat.add_zero, show ((Kd.slice 3 (Kd.int .i64))).sz = 1 from rfl, Nat.mul_one] at hv912_0
           replace hv912_0 := Option.some.inj (hv912_0.symm.trans hx912_0)
           rw [hv912_0] at ge912_0
           have HL912_0 := Aside0.mk (show Kd.R (Kd.int .i64) 3 _ _ _ _ (rd_L8 t908 0) from ge912_0)
           clear hv912_0 ge912_0
           clear hcc912 hce912
           have qi912 : (0 < t908.length) = True := eq_true (by omega)
           (try rw [show ((0 : Int)).toNat = 0 from rfl] at hx912_0)
           (try rw [Addr.add_zero'] at hx912_0)
           have HR912_0 := Aside0.mk hi912_0
           have HC912_0 := Aside0.mk hl912_0
           clear hi912_0 hl912_0
           replace p912 := eq_true p912
           replace q912 := eq_true q912
           obtain ⟨Ao30, co30, eo30⟩ := Kd.R_slice HO_6.out
           subst eo30
           go_wp2_with (first | (go_at_call 26; (with_reducible refine (tenetref00_EqInts.calls k2 _ _ (rd_L8 t908 0) _ _ x6_2 t913 _ ?side1 ?side2 ?side3 ?side4 A28.out).mono ?_); (case side1 => repeat (first | exact (by repeat (first | (with_reducible exact HR912_0.out) | (with_reducible refine Kd.C_alloc ?_ _) | (with_reducible refine Kd.C_drewN ?_ _) | (with_reducible refine Kd.C_drew ?_) | exact HR912_0.out)) | (with_reducible refine Kd.C_alloc ?_ _) | (with_reducible refine Kd.C_drewN ?_ _) | (with_reducible refine Kd.C_drew ?_))); (case side2 => exact HC912_0.out); (case side3 => repeat (first | exact (Kd.R_reads' HO_6.out).2.2 | (with_reducible refine Kd.C_alloc ?_ _) | (with_reducible refine Kd.C_drewN ?_ _) | (with_reducible refine Kd.C_drew ?_))); (case side4 => exact (Kd.R_reads' HO_6.out).2.1); rintro e w' ⟨rfl, ⟨nd, rfl⟩⟩))
           go_meet
           case rel => exact ⟨_, (!t913), (by first | rfl | (simp; done) | (simp [*]; done)), H', ⟨by have := HJ2.out; have := HK2.out; first | omega | exact Nat.le_refl _⟩, ⟨by (with_reducible repeat (first | apply Kd.S_alloc | apply Kd.S_drewN | apply Kd.S_drew)); exact HO_5.out⟩, ⟨by (with_reducible repeat (first | apply Kd.R_alloc | apply Kd.R_drewN | apply Kd.R_drew)); exact HO_6.out⟩, ⟨by repeat (first | (with_reducible first | exact HB.out | apply below_alloc | apply pw_below_drewN | apply below_drew1) | exact HB.out)⟩⟩
          ·rw [if_neg c27] at H
           exact absurd H (by simp)
         ·rw [if_neg c26] at H
          have c26b0 : ((t908.length : Int) == 1) = false := beq_eq_false_iff_ne.mpr c26
          have c26b1 : ((t908.length : Int) != 1) = true := bne_iff_ne.mpr c26
          have H' := Aside0.mk H
          clear H
          obtain ⟨Ao31, co31, eo31⟩ := Kd.S_slice HO911.out
          subst eo31
          go_wp2
          go_meet
          case rel => exact ⟨_, (true), (by first | rfl | (simp; done) | (simp [*]; done)), H', ⟨by have := HJ2.out; have := HK2.out; first | omega | exact Nat.le_refl _⟩, ⟨by (with_reducible repeat (first | apply Kd.S_alloc | apply Kd.S_drewN | apply Kd.S_drew)); exact HO_5.out⟩, ⟨by (with_reducible repeat (first | apply Kd.R_alloc | apply Kd.R_drewN | apply Kd.R_drew)); exact HO_6.out⟩, ⟨by repeat (first | (with_reducible first | exact HB.out | apply below_alloc | apply pw_below_drewN | apply below_drew1) | exact HB.out)⟩⟩
        ·rw [if_neg c25] at H
         have c25b0 : (t909 == 0) = false := beq_eq_false_iff_ne.mpr c25
         have c25b1 : (t909 != 0) = true := bne_iff_ne.mpr c25
         (first | rw [c25b0] | (simp only [i64_w, i32_w]; rw [c25b0]) | skip)
         have H' := Aside0.mk H
         clear H
         go_wp2
         go_meet
         case rel => exact ⟨_, (true), (by first | rfl | (simp; done) | (simp [*]; done)), H', ⟨by have := HJ2.out; have := HK2.out; first | omega | exact Nat.le_refl _⟩, ⟨by (with_reducible repeat (first | apply Kd.S_alloc | apply Kd.S_drewN | apply Kd.S_drew)); exact HO_5.out⟩, ⟨by (with_reducible repeat (first | apply Kd.R_alloc | apply Kd.R_drewN | apply Kd.R_drew)); exact HO_6.out⟩, ⟨by repeat (first | (with_reducible first | exact HB.out | apply below_alloc | apply pw_below_drewN | apply below_drew1) | exact HB.out)⟩⟩
       case rest =>
        clear HC22
        try clear c1
        try clear c2
        try clear p2
        try clear c3
        try clear c4
        try clear c4b0
        try clear c5
        try clear p6
        try clear c8
        try clear c8b0
        try clear c9
        try clear p9
        try clear q9
        try clear hx9
        try clear qi9
        try clear c10
        try clear c10b0
        try clear c10b1
        try clear c12
        try clear c13
        try clear c18
        try clear c21
        try clear c25
        try clear c25b0
        try clear c25b1
        try clear c26
        try clear c26b0
        try clear c26b1
        try clear c27
        try clear c27b0
        try clear c27b1
        try clear hx912_0
        try clear p2
        try clear p912
        try clear q912
        obtain ⟨kq, x63_21, rfl, HA, HJ21, HO_5, HO_6, HB⟩ := hcut
        cases kq with
        | zero => exact absurd HA.out (by simp [tenetlaw02_GraphCircles.j2])
        | succ kj21 =>
         have H := HA.out
         clear HA
         simp only [tenetlaw02_GraphCircles.j2] at H
         by_cases c32 : x63_21 = true
         ·subst c32
          have H1 : (some false) = some r := by rw [if_pos rfl] at H; exact H
          clear H
          have H := H1
          clear H1
          obtain rfl := Option.some.inj H
          go_wp2
          go_ret
          exact ⟨by first | rfl | (simp [errW_none, errW_some] <;> rfl) | (simp [*, errW_none, errW_some] <;> rfl), by repeat (first | (with_reducible first | exact HB.out | apply below_alloc | apply pw_below_drewN | apply below_drew1) | exact HB.out)⟩
         ·replace c32 := Bool.eq_false_iff.mpr c32
          subst c32
          have H1 : (if a0 = 0 then (none) else (if (Int.tmod a1 a0) < 0 then (tenetlaw02_GraphCircles.j3 kj21 a0 x5_2 x6_2 (wrap64 ((Int.tmod a1 a0) + a0))) else (tenetlaw02_GraphCircles.j3 kj21 a0 x5_2 x6_2 (Int.tmod a1 a0)))) = some r := by rw [if_neg (show ¬ (false = true) by decide)] at H; exact H
          clear H
          have H := H1
          clear H1
          by_cases c33 : a0 = 0
          ·rw [if_pos c33] at H
           exact absurd H (by simp)
          ·rw [if_neg c33] at H
           have c33b0 : (a0 == 0) = false := beq_eq_false_iff_ne.mpr c33
           have c33b1 : (a0 != 0) = true := bne_iff_ne.mpr c33
           have HC34 := Aside0.mk H
           clear H
           go_upto_if 68 with (fail)
           go_cut [10] (fun v10 wc => ∃ (kq : Nat) (x10_33 : Int), v10 = .int .i64 x10_33 ∧ Aside0 (tenetlaw02_GraphCircles.j3 kq a0 x5_2 x6_2 x10_33 = some r) ∧ Aside0 (kq ≤ kj21) ∧ Aside0 (Kd.S k44 44 wc w.heap.size (fun _ => True) (.slice Ao23 x5_2.length co23) x5_2) ∧ Aside0 (Kd.R (Kd.int .i64) 3 wc w.heap.size (fun _ => True) u6 x6_2) ∧ Aside0 (Below w.heap.size w wc))
           case first =>
            have H := HC34.out
            clear HC34
            by_cases c35 : (Int.tmod a1 a0) < 0
            ·rw [if_pos c35] at H
             have c35b0 : decide ((Int.tmod a1 a0) < 0) = true := decide_eq_true c35
             clear c35
             (first | rw [c35b0] | (simp only [i64_w, i32_w]; rw [c35b0]) | skip)
             have H' := Aside0.mk H
             clear H
             go_wp2
             go_meet
             case rel => exact ⟨_, (wrap64 ((Int.tmod a1 a0) + a0)), (by first | rfl | (simp; done) | (simp [*]; done)), H', ⟨by have := HJ2.out; have := HK2.out; have := HJ21.out; first | omega | exact Nat.le_refl _⟩, ⟨by (with_reducible repeat (first | apply Kd.S_alloc | apply Kd.S_drewN | apply Kd.S_drew)); exact HO_5.out⟩, ⟨by (with_reducible repeat (first | apply Kd.R_alloc | apply Kd.R_drewN | apply Kd.R_drew)); exact HO_6.out⟩, ⟨by repeat (first | (with_reducible first | exact HB.out | apply below_alloc | apply pw_below_drewN | apply below_drew1) | exact HB.out)⟩⟩
            ·rw [if_neg c35] at H
             have c35b0 : decide ((Int.tmod a1 a0) < 0) = false := decide_eq_false c35
             clear c35
             (first | rw [c35b0] | (simp only [i64_w, i32_w]; rw [c35b0]) | skip)
             have H' := Aside0.mk H
             clear H
             go_wp2
             go_meet
             case rel => exact ⟨_, (Int.tmod a1 a0), (by first | rfl | (simp; done) | (simp [*]; done)), H', ⟨by have := HJ2.out; have := HK2.out; have := HJ21.out; first | omega | exact Nat.le_refl _⟩, ⟨by (with_reducible repeat (first | apply Kd.S_alloc | apply Kd.S_drewN | apply Kd.S_drew)); exact HO_5.out⟩, ⟨by (with_reducible repeat (first | apply Kd.R_alloc | apply Kd.R_drewN | apply Kd.R_drew)); exact HO_6.out⟩, ⟨by repeat (first | (with_reducible first | exact HB.out | apply below_alloc | apply pw_below_drewN | apply below_drew1) | exact HB.out)⟩⟩
           case rest =>
            clear HC34
            try clear c1
            try clear c2
            try clear p2
            try clear c3
            try clear c4
            try clear c4b0
            try clear c5
            try clear p6
            try clear c8
            try clear c8b0
            try clear c9
            try clear p9
            try clear q9
            try clear hx9
            try clear qi9
            try clear c10
            try clear c10b0
            try clear c10b1
            try clear c12
            try clear c13
            try clear c18
            try clear c21
            try clear c25
            try clear c25b0
            try clear c25b1
            try clear c26
            try clear c26b0
            try clear c26b1
            try clear c27
            try clear c27b0
            try clear c27b1
            try clear c32
            try clear c33
            try clear c33b0
            try clear c33b1
            try clear c35
            try clear c35b0
            try clear hx912_0
            try clear p2
            try clear p6
            try clear p9
            try clear p912
            try clear q9
            try clear q912
            obtain ⟨kq, x10_33, rfl, HA, HJ33, HO_5, HO_6, HB⟩ := hcut
            cases kq with
            | zero => exact absurd HA.out (by simp [tenetlaw02_GraphCircles.j3])
            | succ kj33 =>
             have H := HA.out
             clear HA
             simp only [tenetlaw02_GraphCircles.j3] at H
             replace H := Option.bind_eq_some_iff.mp H
             obtain ⟨⟨t914, t915⟩, A360, H⟩ := H
             replace H : (if 0 ≤ x10_33 then (if x10_33 < (x5_2.length : Int) then ((some (x5_2.set (x10_33 : Int).toNat (⟨(⟨t914, t915⟩ : S41), (⟨(rd_T44 x5_2 x10_33).f1.f0, (rd_T44 x5_2 x10_33).f1.f1⟩ : S41)⟩ : S44) : List (S44))).bind fun y918 => ((graph_Solve.f kj33 a0 y918).bind fun bt919 => ((graph_Explain.f kj33 a0 y918).bind fun bt923 => (if bt919.2 = 20 then (if bt923.2.1 = true then (if bt923.2.2 = 0 then ((tenetref00_EqInts.f kj33 bt923.1 x6_2).bind fun t928 => (if t928 = true then ((tenetlaw02_awake.f kj33).bind fun t929 => (some t929)) else (some false))) else (some false)) else (some false)) else (some false))))) else (none)) else (none)) = some r := H
             have A36 := Aside0.mk A360
             clear A360
             by_cases c37 : 0 ≤ x10_33
             ·rw [if_pos c37] at H
              have c37b0 : decide (0 ≤ x10_33) = true := decide_eq_true c37
              clear c37
              by_cases c38 : x10_33 < (x5_2.length : Int)
              ·rw [if_pos c38] at H
               have c38b0 : decide (x10_33 < (x5_2.length : Int)) = true := decide_eq_true c38
               clear c38
               obtain ⟨y918, hy918⟩ : ∃ y_ : List (S44), y_ = (x5_2.set (x10_33 : Int).toNat (⟨(⟨t914, t915⟩ : S41), (⟨(rd_T44 x5_2 x10_33).f1.f0, (rd_T44 x5_2 x10_33).f1.f1⟩ : S41)⟩ : S44)) := ⟨_, rfl⟩
               replace H : ((graph_Solve.f kj33 a0 y918).bind fun bt919 => ((graph_Explain.f kj33 a0 y918).bind fun bt923 => (if bt919.2 = 20 then (if bt923.2.1 = true then (if bt923.2.2 = 0 then ((tenetref00_EqInts.f kj33 bt923.1 x6_2).bind fun t928 => (if t928 = true then ((tenetlaw02_awake.f kj33).bind fun t929 => (some t929)) else (some false))) else (some false)) else (some false)) else (some false)))) = some r := by first | (rw [hy918]; with_reducible exact H) | (have H2_ := (Option.bind_some _ _).symm.trans H; rw [hy918]; with_reducible exact H2_) | (have H2_ := (Option.bind_some _ _).symm.trans H; with_reducible exact H2_) | with_reducible exact H | (rw [hy918]; exact H) | exact H
               have Ny918 := Aside0.mk hy918
               clear hy918
               replace H := Option.bind_eq_some_iff.mp H
               obtain ⟨⟨t919, t922⟩, A400, H⟩ := H
               replace H : ((graph_Explain.f kj33 a0 y918).bind fun bt923 => (if t922 = 20 then (if bt923.2.1 = true then (if bt923.2.2 = 0 then ((tenetref00_EqInts.f kj33 bt923.1 x6_2).bind fun t928 => (if t928 = true then ((tenetlaw02_awake.f kj33).bind fun t929 => (some t929)) else (some false))) else (some false)) else (some false)) else (some false))) = some r := H
               have A40 := Aside0.mk A400
               clear A400
               replace H := Option.bind_eq_some_iff.mp H
               obtain ⟨⟨t923, t924, t925⟩, A410, H⟩ := H
               replace H : (if t922 = 20 then (if t924 = true then (if t925 = 0 then ((tenetref00_EqInts.f kj33 t923 x6_2).bind fun t928 => (if t928 = true then ((tenetlaw02_awake.f kj33).bind fun t929 => (some t929)) else (some false))) else (some false)) else (some false)) else (some false)) = some r := H
               have A41 := Aside0.mk A410
               clear A410
               by_cases c42 : t922 = 20
               ·rw [if_pos c42] at H
                have c42b0 : (t922 == 20) = true := beq_iff_eq.mpr c42
                have c42b1 : (t922 != 20) = false := bne_eq_false_iff_eq.mpr c42
                clear c42
                by_cases c43 : t924 = true
                ·subst c43
                 have H1 : (if t925 = 0 then ((tenetref00_EqInts.f kj33 t923 x6_2).bind fun t928 => (if t928 = true then ((tenetlaw02_awake.f kj33).bind fun t929 => (some t929)) else (some false))) else (some false)) = some r := by rw [if_pos rfl] at H; exact H
                 clear H
                 have H := H1
                 clear H1
                 by_cases c44 : t925 = 0
                 ·rw [if_pos c44] at H
                  have c44b0 : (t925 == 0) = true := beq_iff_eq.mpr c44
                  have c44b1 : (t925 != 0) = false := bne_eq_false_iff_eq.mpr c44
                  clear c44
                  replace H := Option.bind_eq_some_iff.mp H
                  obtain ⟨t928, A450, H⟩ := H
                  replace H : (if t928 = true then ((tenetlaw02_awake.f kj33).bind fun t929 => (some t929)) else (some false)) = some r := H
                  have A45 := Aside0.mk A450
                  clear A450
                  by_cases c46 : t928 = true
                  ·subst c46
                   have H1 : ((tenetlaw02_awake.f kj33).bind fun t929 => (some t929)) = some r := by rw [if_pos rfl] at H; exact H
                   clear H
                   have H := H1
                   clear H1
                   replace H := Option.bind_eq_some_iff.mp H
                   obtain ⟨t929, A470, H⟩ := H
                   replace H : (some t929) = some r := H
                   have A47 := Aside0.mk A470
                   clear A470
                   obtain rfl := Option.some.inj H
                   go_wp2_with (first | ((with_reducible refine gate_callee (f := 32) rfl ?_); refine goesL_ (some 75) rfl rfl Try.func32 (by kernel_rfl) rfl #[.int .i64 x10_33, .int .i64 1] rfl (by (try simp only [List.map_toArray, List.map_cons, List.map_nil]); first | done | rfl | (simp only [List.length_drop, List.length_take]; rfl)) ?_; (with_reducible refine (tenetlaw02_at.calls x10_33 1 t914 t915 _ A36.out).mono ?_); rintro e w48 ⟨v916, rfl, ho0, hb⟩; refine ⟨_, rfl, ?_⟩; have n0_ := Aside0.mk (Kd.S_elder' (by (with_reducible repeat (first | apply Kd.S_alloc | apply Kd.S_drewN | apply Kd.S_drew)); exact HO_5.out) (Kd.R_base ho0) hb); have n1_ := Aside0.mk (Kd.R_below (by (with_reducible repeat (first | apply Kd.R_alloc | apply Kd.R_drewN | apply Kd.R_drew)); exact HO_6.out) hb); have n2_ := Aside0.mk (Kd.R_lower ho0 (below_size (by repeat (first | (with_reducible first | exact HB.out | apply below_alloc | apply pw_below_drewN | apply below_drew1) | exact HB.out)))); have n3_ := Aside0.mk (below_step (by repeat (first | (with_reducible first | exact HB.out | apply below_alloc | apply pw_below_drewN | apply below_drew1) | exact HB.out)) hb); clear HO_5; clear HO_6; clear HB; have HO_5 := n0_; have HO_6 := n1_; have HO917 := n2_; have HB := n3_; clear n0_ n1_ n2_ n3_; (try clear hb); (try clear hb2); (try clear hk); (try clear hi); (try clear ho0); have p39 : 0 ≤ (x10_33 : Int) := of_decide_eq_true (by first | (with_reducible assumption) | assumption); have q39 : (x10_33 : Int) < ((x5_2.length : Int) : Int) := of_decide_eq_true (by first | (with_reducible assumption) | assumption); obtain ⟨go39, co39, eo39, gb39, gl39, cl39, HG39⟩ := Kd.S_form HO_5.out (by omega); (first | cases eo39 | (injection eo39 with ea_ en_ ec_; (first | subst ea_ | (injection ea_ with ea_; subst ea_)); subst ec_; clear en_)); have GB39 := Aside0.mk gb39; have GG39 := Aside0.mk HG39; clear gb39 gl39 HG39; obtain ⟨_, ce39, hcl39, hM39, hcc39, hfr39, _, _⟩ := Kd.S_elem HO_5.out z44 (x10_33 : Int) p39 q39; obtain ⟨ve39_1, ve39_3, rfl, ge39_1, ge39_3⟩ := k44_openM hM39; have hx39_0 : w48.cell? ⟨go39, (x10_33 : Int).toNat * 4, none⟩ = some (.int .i64 ((rd_T44 x5_2 x10_33).f0.f0)) := hcc39 0 _ rfl; have hx39_1 : w48.cell? ⟨go39, (x10_33 : Int).toNat * 4 + 1, none⟩ = some (ve39_1) := hcc39 1 _ rfl; have hx39_2 : w48.cell? ⟨go39, (x10_33 : Int).toNat * 4 + 2, none⟩ = some (.int .i64 ((rd_T44 x5_2 x10_33).f1.f0)) := hcc39 2 _ rfl; have hx39_3 : w48.cell? ⟨go39, (x10_33 : Int).toNat * 4 + 3, none⟩ = some (ve39_3) := hcc39 3 _ rfl; have hf39_0 : w48.frozen? ⟨go39, (x10_33 : Int).toNat * 4, none⟩ = false := hfr39 0; have hf39_1 : w48.frozen? ⟨go39, (x10_33 : Int).toNat * 4 + 1, none⟩ = false := hfr39 1; have hf39_2 : w48.frozen? ⟨go39, (x10_33 : Int).toNat * 4 + 2, none⟩ = false := hfr39 2; have hf39_3 : w48.frozen? ⟨go39, (x10_33 : Int).toNat * 4 + 3, none⟩ = false := hfr39 3; clear hcl39 hcc39 hfr39 hM39; replace p39 := eq_true p39; replace q39 := eq_true q39; have n_ := Aside0.mk (Kd.S_mono (ok' := (fun k_ => some k_ ≠ (v916 : Value).ownBlock)) HO_5.out (fun k_ hk => hk.2)); clear HO_5; have HO_5 := n_; clear n_; have HX49 := Aside0.mk (show Kd.S k44 44 w48 w.heap.size (fun k_ => ((fun _ => True)) k_ ∧ ¬ ((fun k_ => some k_ = (v916 : Value).ownBlock)) k_) (.slice (some ⟨go39, 0, none⟩) x5_2.length co23) x5_2 from (by (with_reducible repeat (first | apply Kd.S_alloc | apply Kd.S_drewN | apply Kd.S_drew)); exact Kd.S_mono HO_5.out (fun k_ hk => ⟨trivial, fun e_ => hk e_⟩))); obtain ⟨oki49, ce49, hcl49, hM49, hcc49, hfr49, hoki49, hH49⟩ := Kd.S_elem HX49.out z44 (x10_33 : Int) (of_decide_eq_true (by first | (with_reducible assumption) | assumption)) (by have h_ : (x10_33 : Int) < ((x5_2.length : Int) : Int) := of_decide_eq_true (by first | (with_reducible assumption) | assumption); first | exact h_ | (have e_ := (Kd.S_reads' HO_5.out).1; omega) | simpa using h_); obtain ⟨ve49_1, ve49_3, rfl, ge49_1, ge49_3⟩ := k44_openM hM49; have HP49 := Kd.S_seg hH49 (of_decide_eq_true (by first | (with_reducible assumption) | assumption)) (by have h_ : (x10_33 : Int) < ((x5_2.length : Int) : Int) := of_decide_eq_true (by first | (with_reducible assumption) | assumption); first | exact h_ | (have e_ := (Kd.S_reads' HO_5.out).1; omega) | simpa using h_) (seg := [.int .i64 t914, v916]) (j := 0) (show 2 ≤ 4 from by decide) (x' := (⟨(⟨t914, t915⟩ : S41), (⟨(rd_T44 x5_2 x10_33).f1.f0, (rd_T44 x5_2 x10_33).f1.f1⟩ : S41)⟩ : S44)) (k44_mkM _ _ _ (⟨(⟨t914, t915⟩ : S41), (⟨(rd_T44 x5_2 x10_33).f1.f0, (rd_T44 x5_2 x10_33).f1.f1⟩ : S41)⟩ : S44) (Kd.R_mono (Kd.R_tight rfl (Kd.R_mono (ok' := fun k_ => ((fun _ => True)) k_ ∧ k_ ≠ go39) (Kd.R_apart' (HO917.out) (Kd.S_typed HO_5.out) (by decide)) (fun k_ hk => ⟨trivial, fun e_ => (hk.2) (by rw [e_]; rfl)⟩))) (fun _ h_ => Or.inr (h_))) (Kd.R_mono ge49_3 (fun _ h_ => Or.inl h_))) (fun _ hk => hk) (fun k_ hk_ => ((Kd.R_mono (ok' := fun k_ => ((fun _ => True)) k_ ∧ k_ ≠ go39) (Kd.R_apart' (HO917.out) (Kd.S_typed HO_5.out) (by decide)) (fun k_ hk => ⟨trivial, fun e_ => (hk.2) (by rw [e_]; rfl)⟩))).1 k_ hk_.symm); have hx49_0 := hcc49 0 _ rfl; (try simp only [show (k44).sz = 4 from rfl, Nat.mul_one, Nat.add_zero] at hx49_0); have hf49_0 := hfr49 0; (try simp only [show (k44).sz = 4 from rfl, Nat.mul_one, Nat.add_zero] at hf49_0); have hx49_1 := hcc49 1 _ rfl; (try simp only [show (k44).sz = 4 from rfl, Nat.mul_one, Nat.add_zero] at hx49_1); have hf49_1 := hfr49 1; (try simp only [show (k44).sz = 4 from rfl, Nat.mul_one, Nat.add_zero] at hf49_1); clear hcl49 hcc49 hfr49 hM49 hoki49 hH49) | ((with_reducible refine gate_store (t := 41) (p := 77) rfl ?_); refine store_event (t := 41) (p := 77) (v := ?vo_w50) (w1 := ((w48.setCell ⟨go39, (x10_33 : Int).toNat * 4, none⟩ (.int .i64 t914)).setCell ⟨go39, (x10_33 : Int).toNat * 4 + 1, none⟩ (v916))) ?hg ?ho ?hn ?hr ?_; (case ho => rfl); (case hg => rfl); (case hn => rfl); (case hr => (go_simp; rw [store_slice HO917.out]; go_simp)); intro w50 hw; have hg : w48.grownBy w50 (some go39) := (by rw [hw]; exact HP49.2); have hp_ : Kd.S k44 44 w50 w.heap.size (fun _ => True) (.slice (some ⟨go39, 0, none⟩) x5_2.length co23) y918 := (by rw [hw, Ny918.out]; exact HP49.1); clear HP49; have n0_ := Aside0.mk (hp_); have n1_ := Aside0.mk (Kd.R_over' (v := (.slice (some ⟨go39, 0, none⟩) x5_2.length co23)) (by (with_reducible repeat (first | apply Kd.R_alloc | apply Kd.R_drewN | apply Kd.R_drew)); exact HO_6.out) (Kd.S_typed HO_5.out) (by decide) hg); have n2_ := Aside0.mk ((by rw [hw]; exact below_set (below_set (HB.out) GB39.out) GB39.out : Below w.heap.size w w50)); clear HO_5; clear HO_6; clear HB; clear HO917; have HO_5 := n0_; have HO_6 := n1_; have HB := n2_; clear n0_ n1_ n2_; clear hg hw hp_) | ((with_reducible refine gate_callee (f := 22) rfl ?_); refine goesL_ (some 81) rfl rfl Try.func22 (by kernel_rfl) rfl #[.int .i64 a0, .slice (some ⟨go39, 0, none⟩) y918.length co23] rfl (by (try simp only [List.map_toArray, List.map_cons, List.map_nil]); first | done | (rw [show y918.length = x5_2.length from (Kd.S_reads' HO_5.out).1.symm] <;> rfl) | rfl | (simp only [List.length_drop, List.length_take]; rfl)) ?_; (with_reducible refine (graph_Solve.calls kj33 a0 _ _ y918 t919 t922 _ ?side1 ?side2 A40.out).mono ?_); (case side1 => repeat (first | exact (Kd.S_reads' HO_5.out).2.2 | (with_reducible refine Kd.C_alloc ?_ _) | (with_reducible refine Kd.C_drewN ?_ _) | (with_reducible refine Kd.C_drew ?_))); (case side2 => rw [show y918.length = x5_2.length from (Kd.S_reads' HO_5.out).1.symm]; exact (Kd.S_reads' HO_5.out).2.1); rintro e w51 ⟨v920, rfl, ho0, hb⟩; refine ⟨_, rfl, ?_⟩; have n0_ := Aside0.mk (Kd.S_below (by (with_reducible repeat (first | apply Kd.S_alloc | apply Kd.S_drewN | apply Kd.S_drew)); exact HO_5.out) hb); have n1_ := Aside0.mk (Kd.R_below (by (with_reducible repeat (first | apply Kd.R_alloc | apply Kd.R_drewN | apply Kd.R_drew)); exact HO_6.out) hb); have n2_ := Aside0.mk (Kd.V_lower (Kd.V_mono (ok' := fun k_ => some k_ ≠ (.slice (some ⟨go39, 0, none⟩) x5_2.length co23 : Value).ownBlock ∧ some k_ ≠ (u6 : Value).ownBlock) ho0 (fun k_ hk_ => ⟨(Kd.fresh' (Kd.S_lt (by (with_reducible repeat (first | apply Kd.S_alloc | apply Kd.S_drewN | apply Kd.S_drew)); exact HO_5.out)) k_ hk_), (Kd.fresh' (Kd.R_lt (by (with_reducible repeat (first | apply Kd.R_alloc | apply Kd.R_drewN | apply Kd.R_drew)); exact HO_6.out)) k_ hk_)⟩)) (below_size (by repeat (first | (with_reducible first | exact HB.out | apply below_alloc | apply pw_below_drewN | apply below_drew1) | exact HB.out)))); have n3_ := Aside0.mk (below_step (by repeat (first | (with_reducible first | exact HB.out | apply below_alloc | apply pw_below_drewN | apply below_drew1) | exact HB.out)) hb); clear HO_5; clear HO_6; clear HB; have HO_5 := n0_; have HO_6 := n1_; have HO921 := n2_; have HB := n3_; clear n0_ n1_ n2_ n3_; (try clear hb); (try clear hb2); (try clear hk); (try clear hi); (try clear ho0)) | ((with_reducible refine gate_callee (f := 45) rfl ?_); refine goesL_ (some 87) rfl rfl Try.func45 (by kernel_rfl) rfl #[.int .i64 a0, .slice (some ⟨go39, 0, none⟩) y918.length co23] rfl (by (try simp only [List.map_toArray, List.map_cons, List.map_nil]); first | done | (rw [show y918.length = x5_2.length from (Kd.S_reads' HO_5.out).1.symm] <;> rfl) | rfl | (simp only [List.length_drop, List.length_take]; rfl)) ?_; (with_reducible refine (graph_Explain.calls kj33 a0 _ _ y918 t923 true t925 _ ?side1 ?side2 A41.out).mono ?_); (case side1 => repeat (first | exact (Kd.S_reads' HO_5.out).2.2 | (with_reducible refine Kd.C_alloc ?_ _) | (with_reducible refine Kd.C_drewN ?_ _) | (with_reducible refine Kd.C_drew ?_))); (case side2 => rw [show y918.length = x5_2.length from (Kd.S_reads' HO_5.out).1.symm]; exact (Kd.S_reads' HO_5.out).2.1); rintro e w52 ⟨v926, rfl, ho0, hb⟩; refine ⟨_, rfl, ?_⟩; have n0_ := Aside0.mk (Kd.S_below (by (with_reducible repeat (first | apply Kd.S_alloc | apply Kd.S_drewN | apply Kd.S_drew)); exact HO_5.out) hb); have n1_ := Aside0.mk (Kd.R_elder' (by (with_reducible repeat (first | apply Kd.R_alloc | apply Kd.R_drewN | apply Kd.R_drew)); exact HO_6.out) (Kd.R_base ho0) hb); have n2_ := Aside0.mk (Kd.V_elder' (by (with_reducible repeat (first | apply Kd.V_alloc | apply Kd.V_drewN | apply Kd.V_drew)); exact HO921.out) (Kd.R_base ho0) hb); have n3_ := Aside0.mk (Kd.R_lower (Kd.R_new' ho0 (Kd.R_lt (by (with_reducible repeat (first | apply Kd.R_alloc | apply Kd.R_drewN | apply Kd.R_drew)); exact HO_6.out))) (below_size (by repeat (first | (with_reducible first | exact HB.out | apply below_alloc | apply pw_below_drewN | apply below_drew1) | exact HB.out)))); have n4_ := Aside0.mk (below_step (by repeat (first | (with_reducible first | exact HB.out | apply below_alloc | apply pw_below_drewN | apply below_drew1) | exact HB.out)) hb); clear HO_5; clear HO_6; clear HO921; clear HB; have HO_5 := n0_; have HO_6 := n1_; have HO921 := n2_; have HO927 := n3_; have HB := n4_; clear n0_ n1_ n2_ n3_ n4_; (try clear hb); (try clear hb2); (try clear hk); (try clear hi); (try clear ho0); obtain ⟨Ao53, co53, eo53⟩ := Kd.R_slice HO927.out; subst eo53; obtain ⟨Ao54, co54, eo54⟩ := Kd.R_slice HO_6.out; subst eo54) | (go_at_call 26; (with_reducible refine (tenetref00_EqInts.calls kj33 _ _ t923 _ _ x6_2 true _ ?side1 ?side2 ?side3 ?side4 A45.out).mono ?_); (case side1 => repeat (first | exact (Kd.R_reads' HO927.out).2.2 | (with_reducible refine Kd.C_alloc ?_ _) | (with_reducible refine Kd.C_drewN ?_ _) | (with_reducible refine Kd.C_drew ?_))); (case side2 => exact (Kd.R_reads' HO927.out).2.1); (case side3 => repeat (first | exact (Kd.R_reads' HO_6.out).2.2 | (with_reducible refine Kd.C_alloc ?_ _) | (with_reducible refine Kd.C_drewN ?_ _) | (with_reducible refine Kd.C_drew ?_))); (case side4 => exact (Kd.R_reads' HO_6.out).2.1); rintro e w' ⟨rfl, ⟨nd, rfl⟩⟩) | (go_at_call 21; (with_reducible refine (tenetlaw02_awake.calls kj33  t929 _ A47.out).mono ?_); rintro e w55 ⟨rfl, hb⟩; have n0_ := Aside0.mk (Kd.S_below (by (with_reducible repeat (first | apply Kd.S_alloc | apply Kd.S_drewN | apply Kd.S_drew)); exact HO_5.out) hb); have n1_ := Aside0.mk (Kd.R_below (by (with_reducible repeat (first | apply Kd.R_alloc | apply Kd.R_drewN | apply Kd.R_drew)); exact HO_6.out) hb); have n2_ := Aside0.mk (Kd.V_below (by (with_reducible repeat (first | apply Kd.V_alloc | apply Kd.V_drewN | apply Kd.V_drew)); exact HO921.out) hb); have n3_ := Aside0.mk (Kd.R_below (by (with_reducible repeat (first | apply Kd.R_alloc | apply Kd.R_drewN | apply Kd.R_drew)); exact HO927.out) hb); have n4_ := Aside0.mk (below_step (by repeat (first | (with_reducible first | exact HB.out | apply below_alloc | apply pw_below_drewN | apply below_drew1) | exact HB.out)) hb); clear HO_5; clear HO_6; clear HO921; clear HO927; clear HB; have HO_5 := n0_; have HO_6 := n1_; have HO921 := n2_; have HO927 := n3_; have HB := n4_; clear n0_ n1_ n2_ n3_ n4_; (try clear hb); (try clear hb2); (try clear hk); (try clear hi)))
                   go_ret
                   exact ⟨by first | rfl | (simp [errW_none, errW_some] <;> rfl) | (simp [*, errW_none, errW_some] <;> rfl), by repeat (first | (with_reducible first | exact HB.out | apply below_alloc | apply pw_below_drewN | apply below_drew1) | exact HB.out)⟩
                  ·replace c46 := Bool.eq_false_iff.mpr c46
                   subst c46
                   have H1 : (some false) = some r := by rw [if_neg (show ¬ (false = true) by decide)] at H; exact H
                   clear H
                   have H := H1
                   clear H1
                   obtain rfl := Option.some.inj H
                   go_wp2_with (first | ((with_reducible refine gate_callee (f := 32) rfl ?_); refine goesL_ (some 75) rfl rfl Try.func32 (by kernel_rfl) rfl #[.int .i64 x10_33, .int .i64 1] rfl (by (try simp only [List.map_toArray, List.map_cons, List.map_nil]); first | done | rfl | (simp only [List.length_drop, List.length_take]; rfl)) ?_; (with_reducible refine (tenetlaw02_at.calls x10_33 1 t914 t915 _ A36.out).mono ?_); rintro e w56 ⟨v916, rfl, ho0, hb⟩; refine ⟨_, rfl, ?_⟩; have n0_ := Aside0.mk (Kd.S_elder' (by (with_reducible repeat (first | apply Kd.S_alloc | apply Kd.S_drewN | apply Kd.S_drew)); exact HO_5.out) (Kd.R_base ho0) hb); have n1_ := Aside0.mk (Kd.R_below (by (with_reducible repeat (first | apply Kd.R_alloc | apply Kd.R_drewN | apply Kd.R_drew)); exact HO_6.out) hb); have n2_ := Aside0.mk (Kd.R_lower ho0 (below_size (by repeat (first | (with_reducible first | exact HB.out | apply below_alloc | apply pw_below_drewN | apply below_drew1) | exact HB.out)))); have n3_ := Aside0.mk (below_step (by repeat (first | (with_reducible first | exact HB.out | apply below_alloc | apply pw_below_drewN | apply below_drew1) | exact HB.out)) hb); clear HO_5; clear HO_6; clear HB; have HO_5 := n0_; have HO_6 := n1_; have HO917 := n2_; have HB := n3_; clear n0_ n1_ n2_ n3_; (try clear hb); (try clear hb2); (try clear hk); (try clear hi); (try clear ho0); have p39 : 0 ≤ (x10_33 : Int) := of_decide_eq_true (by first | (with_reducible assumption) | assumption); have q39 : (x10_33 : Int) < ((x5_2.length : Int) : Int) := of_decide_eq_true (by first | (with_reducible assumption) | assumption); obtain ⟨go39, co39, eo39, gb39, gl39, cl39, HG39⟩ := Kd.S_form HO_5.out (by omega); (first | cases eo39 | (injection eo39 with ea_ en_ ec_; (first | subst ea_ | (injection ea_ with ea_; subst ea_)); subst ec_; clear en_)); have GB39 := Aside0.mk gb39; have GG39 := Aside0.mk HG39; clear gb39 gl39 HG39; obtain ⟨_, ce39, hcl39, hM39, hcc39, hfr39, _, _⟩ := Kd.S_elem HO_5.out z44 (x10_33 : Int) p39 q39; obtain ⟨ve39_1, ve39_3, rfl, ge39_1, ge39_3⟩ := k44_openM hM39; have hx39_0 : w56.cell? ⟨go39, (x10_33 : Int).toNat * 4, none⟩ = some (.int .i64 ((rd_T44 x5_2 x10_33).f0.f0)) := hcc39 0 _ rfl; have hx39_1 : w56.cell? ⟨go39, (x10_33 : Int).toNat * 4 + 1, none⟩ = some (ve39_1) := hcc39 1 _ rfl; have hx39_2 : w56.cell? ⟨go39, (x10_33 : Int).toNat * 4 + 2, none⟩ = some (.int .i64 ((rd_T44 x5_2 x10_33).f1.f0)) := hcc39 2 _ rfl; have hx39_3 : w56.cell? ⟨go39, (x10_33 : Int).toNat * 4 + 3, none⟩ = some (ve39_3) := hcc39 3 _ rfl; have hf39_0 : w56.frozen? ⟨go39, (x10_33 : Int).toNat * 4, none⟩ = false := hfr39 0; have hf39_1 : w56.frozen? ⟨go39, (x10_33 : Int).toNat * 4 + 1, none⟩ = false := hfr39 1; have hf39_2 : w56.frozen? ⟨go39, (x10_33 : Int).toNat * 4 + 2, none⟩ = false := hfr39 2; have hf39_3 : w56.frozen? ⟨go39, (x10_33 : Int).toNat * 4 + 3, none⟩ = false := hfr39 3; clear hcl39 hcc39 hfr39 hM39; replace p39 := eq_true p39; replace q39 := eq_true q39; have n_ := Aside0.mk (Kd.S_mono (ok' := (fun k_ => some k_ ≠ (v916 : Value).ownBlock)) HO_5.out (fun k_ hk => hk.2)); clear HO_5; have HO_5 := n_; clear n_; have HX57 := Aside0.mk (show Kd.S k44 44 w56 w.heap.size (fun k_ => ((fun _ => True)) k_ ∧ ¬ ((fun k_ => some k_ = (v916 : Value).ownBlock)) k_) (.slice (some ⟨go39, 0, none⟩) x5_2.length co23) x5_2 from (by (with_reducible repeat (first | apply Kd.S_alloc | apply Kd.S_drewN | apply Kd.S_drew)); exact Kd.S_mono HO_5.out (fun k_ hk => ⟨trivial, fun e_ => hk e_⟩))); obtain ⟨oki57, ce57, hcl57, hM57, hcc57, hfr57, hoki57, hH57⟩ := Kd.S_elem HX57.out z44 (x10_33 : Int) (of_decide_eq_true (by first | (with_reducible assumption) | assumption)) (by have h_ : (x10_33 : Int) < ((x5_2.length : Int) : Int) := of_decide_eq_true (by first | (with_reducible assumption) | assumption); first | exact h_ | (have e_ := (Kd.S_reads' HO_5.out).1; omega) | simpa using h_); obtain ⟨ve57_1, ve57_3, rfl, ge57_1, ge57_3⟩ := k44_openM hM57; have HP57 := Kd.S_seg hH57 (of_decide_eq_true (by first | (with_reducible assumption) | assumption)) (by have h_ : (x10_33 : Int) < ((x5_2.length : Int) : Int) := of_decide_eq_true (by first | (with_reducible assumption) | assumption); first | exact h_ | (have e_ := (Kd.S_reads' HO_5.out).1; omega) | simpa using h_) (seg := [.int .i64 t914, v916]) (j := 0) (show 2 ≤ 4 from by decide) (x' := (⟨(⟨t914, t915⟩ : S41), (⟨(rd_T44 x5_2 x10_33).f1.f0, (rd_T44 x5_2 x10_33).f1.f1⟩ : S41)⟩ : S44)) (k44_mkM _ _ _ (⟨(⟨t914, t915⟩ : S41), (⟨(rd_T44 x5_2 x10_33).f1.f0, (rd_T44 x5_2 x10_33).f1.f1⟩ : S41)⟩ : S44) (Kd.R_mono (Kd.R_tight rfl (Kd.R_mono (ok' := fun k_ => ((fun _ => True)) k_ ∧ k_ ≠ go39) (Kd.R_apart' (HO917.out) (Kd.S_typed HO_5.out) (by decide)) (fun k_ hk => ⟨trivial, fun e_ => (hk.2) (by rw [e_]; rfl)⟩))) (fun _ h_ => Or.inr (h_))) (Kd.R_mono ge57_3 (fun _ h_ => Or.inl h_))) (fun _ hk => hk) (fun k_ hk_ => ((Kd.R_mono (ok' := fun k_ => ((fun _ => True)) k_ ∧ k_ ≠ go39) (Kd.R_apart' (HO917.out) (Kd.S_typed HO_5.out) (by decide)) (fun k_ hk => ⟨trivial, fun e_ => (hk.2) (by rw [e_]; rfl)⟩))).1 k_ hk_.symm); have hx57_0 := hcc57 0 _ rfl; (try simp only [show (k44).sz = 4 from rfl, Nat.mul_one, Nat.add_zero] at hx57_0); have hf57_0 := hfr57 0; (try simp only [show (k44).sz = 4 from rfl, Nat.mul_one, Nat.add_zero] at hf57_0); have hx57_1 := hcc57 1 _ rfl; (try simp only [show (k44).sz = 4 from rfl, Nat.mul_one, Nat.add_zero] at hx57_1); have hf57_1 := hfr57 1; (try simp only [show (k44).sz = 4 from rfl, Nat.mul_one, Nat.add_zero] at hf57_1); clear hcl57 hcc57 hfr57 hM57 hoki57 hH57) | ((with_reducible refine gate_store (t := 41) (p := 77) rfl ?_); refine store_event (t := 41) (p := 77) (v := ?vo_w58) (w1 := ((w56.setCell ⟨go39, (x10_33 : Int).toNat * 4, none⟩ (.int .i64 t914)).setCell ⟨go39, (x10_33 : Int).toNat * 4 + 1, none⟩ (v916))) ?hg ?ho ?hn ?hr ?_; (case ho => rfl); (case hg => rfl); (case hn => rfl); (case hr => (go_simp; rw [store_slice HO917.out]; go_simp)); intro w58 hw; have hg : w56.grownBy w58 (some go39) := (by rw [hw]; exact HP57.2); have hp_ : Kd.S k44 44 w58 w.heap.size (fun _ => True) (.slice (some ⟨go39, 0, none⟩) x5_2.length co23) y918 := (by rw [hw, Ny918.out]; exact HP57.1); clear HP57; have n0_ := Aside0.mk (hp_); have n1_ := Aside0.mk (Kd.R_over' (v := (.slice (some ⟨go39, 0, none⟩) x5_2.length co23)) (by (with_reducible repeat (first | apply Kd.R_alloc | apply Kd.R_drewN | apply Kd.R_drew)); exact HO_6.out) (Kd.S_typed HO_5.out) (by decide) hg); have n2_ := Aside0.mk ((by rw [hw]; exact below_set (below_set (HB.out) GB39.out) GB39.out : Below w.heap.size w w58)); clear HO_5; clear HO_6; clear HB; clear HO917; have HO_5 := n0_; have HO_6 := n1_; have HB := n2_; clear n0_ n1_ n2_; clear hg hw hp_) | ((with_reducible refine gate_callee (f := 22) rfl ?_); refine goesL_ (some 81) rfl rfl Try.func22 (by kernel_rfl) rfl #[.int .i64 a0, .slice (some ⟨go39, 0, none⟩) y918.length co23] rfl (by (try simp only [List.map_toArray, List.map_cons, List.map_nil]); first | done | (rw [show y918.length = x5_2.length from (Kd.S_reads' HO_5.out).1.symm] <;> rfl) | rfl | (simp only [List.length_drop, List.length_take]; rfl)) ?_; (with_reducible refine (graph_Solve.calls kj33 a0 _ _ y918 t919 t922 _ ?side1 ?side2 A40.out).mono ?_); (case side1 => repeat (first | exact (Kd.S_reads' HO_5.out).2.2 | (with_reducible refine Kd.C_alloc ?_ _) | (with_reducible refine Kd.C_drewN ?_ _) | (with_reducible refine Kd.C_drew ?_))); (case side2 => rw [show y918.length = x5_2.length from (Kd.S_reads' HO_5.out).1.symm]; exact (Kd.S_reads' HO_5.out).2.1); rintro e w59 ⟨v920, rfl, ho0, hb⟩; refine ⟨_, rfl, ?_⟩; have n0_ := Aside0.mk (Kd.S_below (by (with_reducible repeat (first | apply Kd.S_alloc | apply Kd.S_drewN | apply Kd.S_drew)); exact HO_5.out) hb); have n1_ := Aside0.mk (Kd.R_below (by (with_reducible repeat (first | apply Kd.R_alloc | apply Kd.R_drewN | apply Kd.R_drew)); exact HO_6.out) hb); have n2_ := Aside0.mk (Kd.V_lower (Kd.V_mono (ok' := fun k_ => some k_ ≠ (.slice (some ⟨go39, 0, none⟩) x5_2.length co23 : Value).ownBlock ∧ some k_ ≠ (u6 : Value).ownBlock) ho0 (fun k_ hk_ => ⟨(Kd.fresh' (Kd.S_lt (by (with_reducible repeat (first | apply Kd.S_alloc | apply Kd.S_drewN | apply Kd.S_drew)); exact HO_5.out)) k_ hk_), (Kd.fresh' (Kd.R_lt (by (with_reducible repeat (first | apply Kd.R_alloc | apply Kd.R_drewN | apply Kd.R_drew)); exact HO_6.out)) k_ hk_)⟩)) (below_size (by repeat (first | (with_reducible first | exact HB.out | apply below_alloc | apply pw_below_drewN | apply below_drew1) | exact HB.out)))); have n3_ := Aside0.mk (below_step (by repeat (first | (with_reducible first | exact HB.out | apply below_alloc | apply pw_below_drewN | apply below_drew1) | exact HB.out)) hb); clear HO_5; clear HO_6; clear HB; have HO_5 := n0_; have HO_6 := n1_; have HO921 := n2_; have HB := n3_; clear n0_ n1_ n2_ n3_; (try clear hb); (try clear hb2); (try clear hk); (try clear hi); (try clear ho0)) | ((with_reducible refine gate_callee (f := 45) rfl ?_); refine goesL_ (some 87) rfl rfl Try.func45 (by kernel_rfl) rfl #[.int .i64 a0, .slice (some ⟨go39, 0, none⟩) y918.length co23] rfl (by (try simp only [List.map_toArray, List.map_cons, List.map_nil]); first | done | (rw [show y918.length = x5_2.length from (Kd.S_reads' HO_5.out).1.symm] <;> rfl) | rfl | (simp only [List.length_drop, List.length_take]; rfl)) ?_; (with_reducible refine (graph_Explain.calls kj33 a0 _ _ y918 t923 true t925 _ ?side1 ?side2 A41.out).mono ?_); (case side1 => repeat (first | exact (Kd.S_reads' HO_5.out).2.2 | (with_reducible refine Kd.C_alloc ?_ _) | (with_reducible refine Kd.C_drewN ?_ _) | (with_reducible refine Kd.C_drew ?_))); (case side2 => rw [show y918.length = x5_2.length from (Kd.S_reads' HO_5.out).1.symm]; exact (Kd.S_reads' HO_5.out).2.1); rintro e w60 ⟨v926, rfl, ho0, hb⟩; refine ⟨_, rfl, ?_⟩; have n0_ := Aside0.mk (Kd.S_below (by (with_reducible repeat (first | apply Kd.S_alloc | apply Kd.S_drewN | apply Kd.S_drew)); exact HO_5.out) hb); have n1_ := Aside0.mk (Kd.R_elder' (by (with_reducible repeat (first | apply Kd.R_alloc | apply Kd.R_drewN | apply Kd.R_drew)); exact HO_6.out) (Kd.R_base ho0) hb); have n2_ := Aside0.mk (Kd.V_elder' (by (with_reducible repeat (first | apply Kd.V_alloc | apply Kd.V_drewN | apply Kd.V_drew)); exact HO921.out) (Kd.R_base ho0) hb); have n3_ := Aside0.mk (Kd.R_lower (Kd.R_new' ho0 (Kd.R_lt (by (with_reducible repeat (first | apply Kd.R_alloc | apply Kd.R_drewN | apply Kd.R_drew)); exact HO_6.out))) (below_size (by repeat (first | (with_reducible first | exact HB.out | apply below_alloc | apply pw_below_drewN | apply below_drew1) | exact HB.out)))); have n4_ := Aside0.mk (below_step (by repeat (first | (with_reducible first | exact HB.out | apply below_alloc | apply pw_below_drewN | apply below_drew1) | exact HB.out)) hb); clear HO_5; clear HO_6; clear HO921; clear HB; have HO_5 := n0_; have HO_6 := n1_; have HO921 := n2_; have HO927 := n3_; have HB := n4_; clear n0_ n1_ n2_ n3_ n4_; (try clear hb); (try clear hb2); (try clear hk); (try clear hi); (try clear ho0); obtain ⟨Ao61, co61, eo61⟩ := Kd.R_slice HO927.out; subst eo61; obtain ⟨Ao62, co62, eo62⟩ := Kd.R_slice HO_6.out; subst eo62) | (go_at_call 26; (with_reducible refine (tenetref00_EqInts.calls kj33 _ _ t923 _ _ x6_2 false _ ?side1 ?side2 ?side3 ?side4 A45.out).mono ?_); (case side1 => repeat (first | exact (Kd.R_reads' HO927.out).2.2 | (with_reducible refine Kd.C_alloc ?_ _) | (with_reducible refine Kd.C_drewN ?_ _) | (with_reducible refine Kd.C_drew ?_))); (case side2 => exact (Kd.R_reads' HO927.out).2.1); (case side3 => repeat (first | exact (Kd.R_reads' HO_6.out).2.2 | (with_reducible refine Kd.C_alloc ?_ _) | (with_reducible refine Kd.C_drewN ?_ _) | (with_reducible refine Kd.C_drew ?_))); (case side4 => exact (Kd.R_reads' HO_6.out).2.1); rintro e w' ⟨rfl, ⟨nd, rfl⟩⟩))
                   go_ret
                   exact ⟨by first | rfl | (simp [errW_none, errW_some] <;> rfl) | (simp [*, errW_none, errW_some] <;> rfl), by repeat (first | (with_reducible first | exact HB.out | apply below_alloc | apply pw_below_drewN | apply below_drew1) | exact HB.out)⟩
                 ·rw [if_neg c44] at H
                  have c44b0 : (t925 == 0) = false := beq_eq_false_iff_ne.mpr c44
                  have c44b1 : (t925 != 0) = true := bne_iff_ne.mpr c44
                  obtain rfl := Option.some.inj H
                  go_wp2_with (first | ((with_reducible refine gate_callee (f := 32) rfl ?_); refine goesL_ (some 75) rfl rfl Try.func32 (by kernel_rfl) rfl #[.int .i64 x10_33, .int .i64 1] rfl (by (try simp only [List.map_toArray, List.map_cons, List.map_nil]); first | done | rfl | (simp only [List.length_drop, List.length_take]; rfl)) ?_; (with_reducible refine (tenetlaw02_at.calls x10_33 1 t914 t915 _ A36.out).mono ?_); rintro e w63 ⟨v916, rfl, ho0, hb⟩; refine ⟨_, rfl, ?_⟩; have n0_ := Aside0.mk (Kd.S_elder' (by (with_reducible repeat (first | apply Kd.S_alloc | apply Kd.S_drewN | apply Kd.S_drew)); exact HO_5.out) (Kd.R_base ho0) hb); have n1_ := Aside0.mk (Kd.R_below (by (with_reducible repeat (first | apply Kd.R_alloc | apply Kd.R_drewN | apply Kd.R_drew)); exact HO_6.out) hb); have n2_ := Aside0.mk (Kd.R_lower ho0 (below_size (by repeat (first | (with_reducible first | exact HB.out | apply below_alloc | apply pw_below_drewN | apply below_drew1) | exact HB.out)))); have n3_ := Aside0.mk (below_step (by repeat (first | (with_reducible first | exact HB.out | apply below_alloc | apply pw_below_drewN | apply below_drew1) | exact HB.out)) hb); clear HO_5; clear HO_6; clear HB; have HO_5 := n0_; have HO_6 := n1_; have HO917 := n2_; have HB := n3_; clear n0_ n1_ n2_ n3_; (try clear hb); (try clear hb2); (try clear hk); (try clear hi); (try clear ho0); have p39 : 0 ≤ (x10_33 : Int) := of_decide_eq_true (by first | (with_reducible assumption) | assumption); have q39 : (x10_33 : Int) < ((x5_2.length : Int) : Int) := of_decide_eq_true (by first | (with_reducible assumption) | assumption); obtain ⟨go39, co39, eo39, gb39, gl39, cl39, HG39⟩ := Kd.S_form HO_5.out (by omega); (first | cases eo39 | (injection eo39 with ea_ en_ ec_; (first | subst ea_ | (injection ea_ with ea_; subst ea_)); subst ec_; clear en_)); have GB39 := Aside0.mk gb39; have GG39 := Aside0.mk HG39; clear gb39 gl39 HG39; obtain ⟨_, ce39, hcl39, hM39, hcc39, hfr39, _, _⟩ := Kd.S_elem HO_5.out z44 (x10_33 : Int) p39 q39; obtain ⟨ve39_1, ve39_3, rfl, ge39_1, ge39_3⟩ := k44_openM hM39; have hx39_0 : w63.cell? ⟨go39, (x10_33 : Int).toNat * 4, none⟩ = some (.int .i64 ((rd_T44 x5_2 x10_33).f0.f0)) := hcc39 0 _ rfl; have hx39_1 : w63.cell? ⟨go39, (x10_33 : Int).toNat * 4 + 1, none⟩ = some (ve39_1) := hcc39 1 _ rfl; have hx39_2 : w63.cell? ⟨go39, (x10_33 : Int).toNat * 4 + 2, none⟩ = some (.int .i64 ((rd_T44 x5_2 x10_33).f1.f0)) := hcc39 2 _ rfl; have hx39_3 : w63.cell? ⟨go39, (x10_33 : Int).toNat * 4 + 3, none⟩ = some (ve39_3) := hcc39 3 _ rfl; have hf39_0 : w63.frozen? ⟨go39, (x10_33 : Int).toNat * 4, none⟩ = false := hfr39 0; have hf39_1 : w63.frozen? ⟨go39, (x10_33 : Int).toNat * 4 + 1, none⟩ = false := hfr39 1; have hf39_2 : w63.frozen? ⟨go39, (x10_33 : Int).toNat * 4 + 2, none⟩ = false := hfr39 2; have hf39_3 : w63.frozen? ⟨go39, (x10_33 : Int).toNat * 4 + 3, none⟩ = false := hfr39 3; clear hcl39 hcc39 hfr39 hM39; replace p39 := eq_true p39; replace q39 := eq_true q39; have n_ := Aside0.mk (Kd.S_mono (ok' := (fun k_ => some k_ ≠ (v916 : Value).ownBlock)) HO_5.out (fun k_ hk => hk.2)); clear HO_5; have HO_5 := n_; clear n_; have HX64 := Aside0.mk (show Kd.S k44 44 w63 w.heap.size (fun k_ => ((fun _ => True)) k_ ∧ ¬ ((fun k_ => some k_ = (v916 : Value).ownBlock)) k_) (.slice (some ⟨go39, 0, none⟩) x5_2.length co23) x5_2 from (by (with_reducible repeat (first | apply Kd.S_alloc | apply Kd.S_drewN | apply Kd.S_drew)); exact Kd.S_mono HO_5.out (fun k_ hk => ⟨trivial, fun e_ => hk e_⟩))); obtain ⟨oki64, ce64, hcl64, hM64, hcc64, hfr64, hoki64, hH64⟩ := Kd.S_elem HX64.out z44 (x10_33 : Int) (of_decide_eq_true (by first | (with_reducible assumption) | assumption)) (by have h_ : (x10_33 : Int) < ((x5_2.length : Int) : Int) := of_decide_eq_true (by first | (with_reducible assumption) | assumption); first | exact h_ | (have e_ := (Kd.S_reads' HO_5.out).1; omega) | simpa using h_); obtain ⟨ve64_1, ve64_3, rfl, ge64_1, ge64_3⟩ := k44_openM hM64; have HP64 := Kd.S_seg hH64 (of_decide_eq_true (by first | (with_reducible assumption) | assumption)) (by have h_ : (x10_33 : Int) < ((x5_2.length : Int) : Int) := of_decide_eq_true (by first | (with_reducible assumption) | assumption); first | exact h_ | (have e_ := (Kd.S_reads' HO_5.out).1; omega) | simpa using h_) (seg := [.int .i64 t914, v916]) (j := 0) (show 2 ≤ 4 from by decide) (x' := (⟨(⟨t914, t915⟩ : S41), (⟨(rd_T44 x5_2 x10_33).f1.f0, (rd_T44 x5_2 x10_33).f1.f1⟩ : S41)⟩ : S44)) (k44_mkM _ _ _ (⟨(⟨t914, t915⟩ : S41), (⟨(rd_T44 x5_2 x10_33).f1.f0, (rd_T44 x5_2 x10_33).f1.f1⟩ : S41)⟩ : S44) (Kd.R_mono (Kd.R_tight rfl (Kd.R_mono (ok' := fun k_ => ((fun _ => True)) k_ ∧ k_ ≠ go39) (Kd.R_apart' (HO917.out) (Kd.S_typed HO_5.out) (by decide)) (fun k_ hk => ⟨trivial, fun e_ => (hk.2) (by rw [e_]; rfl)⟩))) (fun _ h_ => Or.inr (h_))) (Kd.R_mono ge64_3 (fun _ h_ => Or.inl h_))) (fun _ hk => hk) (fun k_ hk_ => ((Kd.R_mono (ok' := fun k_ => ((fun _ => True)) k_ ∧ k_ ≠ go39) (Kd.R_apart' (HO917.out) (Kd.S_typed HO_5.out) (by decide)) (fun k_ hk => ⟨trivial, fun e_ => (hk.2) (by rw [e_]; rfl)⟩))).1 k_ hk_.symm); have hx64_0 := hcc64 0 _ rfl; (try simp only [show (k44).sz = 4 from rfl, Nat.mul_one, Nat.add_zero] at hx64_0); have hf64_0 := hfr64 0; (try simp only [show (k44).sz = 4 from rfl, Nat.mul_one, Nat.add_zero] at hf64_0); have hx64_1 := hcc64 1 _ rfl; (try simp only [show (k44).sz = 4 from rfl, Nat.mul_one, Nat.add_zero] at hx64_1); have hf64_1 := hfr64 1; (try simp only [show (k44).sz = 4 from rfl, Nat.mul_one, Nat.add_zero] at hf64_1); clear hcl64 hcc64 hfr64 hM64 hoki64 hH64) | ((with_reducible refine gate_store (t := 41) (p := 77) rfl ?_); refine store_event (t := 41) (p := 77) (v := ?vo_w65) (w1 := ((w63.setCell ⟨go39, (x10_33 : Int).toNat * 4, none⟩ (.int .i64 t914)).setCell ⟨go39, (x10_33 : Int).toNat * 4 + 1, none⟩ (v916))) ?hg ?ho ?hn ?hr ?_; (case ho => rfl); (case hg => rfl); (case hn => rfl); (case hr => (go_simp; rw [store_slice HO917.out]; go_simp)); intro w65 hw; have hg : w63.grownBy w65 (some go39) := (by rw [hw]; exact HP64.2); have hp_ : Kd.S k44 44 w65 w.heap.size (fun _ => True) (.slice (some ⟨go39, 0, none⟩) x5_2.length co23) y918 := (by rw [hw, Ny918.out]; exact HP64.1); clear HP64; have n0_ := Aside0.mk (hp_); have n1_ := Aside0.mk (Kd.R_over' (v := (.slice (some ⟨go39, 0, none⟩) x5_2.length co23)) (by (with_reducible repeat (first | apply Kd.R_alloc | apply Kd.R_drewN | apply Kd.R_drew)); exact HO_6.out) (Kd.S_typed HO_5.out) (by decide) hg); have n2_ := Aside0.mk ((by rw [hw]; exact below_set (below_set (HB.out) GB39.out) GB39.out : Below w.heap.size w w65)); clear HO_5; clear HO_6; clear HB; clear HO917; have HO_5 := n0_; have HO_6 := n1_; have HB := n2_; clear n0_ n1_ n2_; clear hg hw hp_) | ((with_reducible refine gate_callee (f := 22) rfl ?_); refine goesL_ (some 81) rfl rfl Try.func22 (by kernel_rfl) rfl #[.int .i64 a0, .slice (some ⟨go39, 0, none⟩) y918.length co23] rfl (by (try simp only [List.map_toArray, List.map_cons, List.map_nil]); first | done | (rw [show y918.length = x5_2.length from (Kd.S_reads' HO_5.out).1.symm] <;> rfl) | rfl | (simp only [List.length_drop, List.length_take]; rfl)) ?_; (with_reducible refine (graph_Solve.calls kj33 a0 _ _ y918 t919 t922 _ ?side1 ?side2 A40.out).mono ?_); (case side1 => repeat (first | exact (Kd.S_reads' HO_5.out).2.2 | (with_reducible refine Kd.C_alloc ?_ _) | (with_reducible refine Kd.C_drewN ?_ _) | (with_reducible refine Kd.C_drew ?_))); (case side2 => rw [show y918.length = x5_2.length from (Kd.S_reads' HO_5.out).1.symm]; exact (Kd.S_reads' HO_5.out).2.1); rintro e w66 ⟨v920, rfl, ho0, hb⟩; refine ⟨_, rfl, ?_⟩; have n0_ := Aside0.mk (Kd.S_below (by (with_reducible repeat (first | apply Kd.S_alloc | apply Kd.S_drewN | apply Kd.S_drew)); exact HO_5.out) hb); have n1_ := Aside0.mk (Kd.R_below (by (with_reducible repeat (first | apply Kd.R_alloc | apply Kd.R_drewN | apply Kd.R_drew)); exact HO_6.out) hb); have n2_ := Aside0.mk (Kd.V_lower (Kd.V_mono (ok' := fun k_ => some k_ ≠ (.slice (some ⟨go39, 0, none⟩) x5_2.length co23 : Value).ownBlock ∧ some k_ ≠ (u6 : Value).ownBlock) ho0 (fun k_ hk_ => ⟨(Kd.fresh' (Kd.S_lt (by (with_reducible repeat (first | apply Kd.S_alloc | apply Kd.S_drewN | apply Kd.S_drew)); exact HO_5.out)) k_ hk_), (Kd.fresh' (Kd.R_lt (by (with_reducible repeat (first | apply Kd.R_alloc | apply Kd.R_drewN | apply Kd.R_drew)); exact HO_6.out)) k_ hk_)⟩)) (below_size (by repeat (first | (with_reducible first | exact HB.out | apply below_alloc | apply pw_below_drewN | apply below_drew1) | exact HB.out)))); have n3_ := Aside0.mk (below_step (by repeat (first | (with_reducible first | exact HB.out | apply below_alloc | apply pw_below_drewN | apply below_drew1) | exact HB.out)) hb); clear HO_5; clear HO_6; clear HB; have HO_5 := n0_; have HO_6 := n1_; have HO921 := n2_; have HB := n3_; clear n0_ n1_ n2_ n3_; (try clear hb); (try clear hb2); (try clear hk); (try clear hi); (try clear ho0)) | ((with_reducible refine gate_callee (f := 45) rfl ?_); refine goesL_ (some 87) rfl rfl Try.func45 (by kernel_rfl) rfl #[.int .i64 a0, .slice (some ⟨go39, 0, none⟩) y918.length co23] rfl (by (try simp only [List.map_toArray, List.map_cons, List.map_nil]); first | done | (rw [show y918.length = x5_2.length from (Kd.S_reads' HO_5.out).1.symm] <;> rfl) | rfl | (simp only [List.length_drop, List.length_take]; rfl)) ?_; (with_reducible refine (graph_Explain.calls kj33 a0 _ _ y918 t923 true t925 _ ?side1 ?side2 A41.out).mono ?_); (case side1 => repeat (first | exact (Kd.S_reads' HO_5.out).2.2 | (with_reducible refine Kd.C_alloc ?_ _) | (with_reducible refine Kd.C_drewN ?_ _) | (with_reducible refine Kd.C_drew ?_))); (case side2 => rw [show y918.length = x5_2.length from (Kd.S_reads' HO_5.out).1.symm]; exact (Kd.S_reads' HO_5.out).2.1); rintro e w67 ⟨v926, rfl, ho0, hb⟩; refine ⟨_, rfl, ?_⟩; have n0_ := Aside0.mk (Kd.S_below (by (with_reducible repeat (first | apply Kd.S_alloc | apply Kd.S_drewN | apply Kd.S_drew)); exact HO_5.out) hb); have n1_ := Aside0.mk (Kd.R_elder' (by (with_reducible repeat (first | apply Kd.R_alloc | apply Kd.R_drewN | apply Kd.R_drew)); exact HO_6.out) (Kd.R_base ho0) hb); have n2_ := Aside0.mk (Kd.V_elder' (by (with_reducible repeat (first | apply Kd.V_alloc | apply Kd.V_drewN | apply Kd.V_drew)); exact HO921.out) (Kd.R_base ho0) hb); have n3_ := Aside0.mk (Kd.R_lower (Kd.R_new' ho0 (Kd.R_lt (by (with_reducible repeat (first | apply Kd.R_alloc | apply Kd.R_drewN | apply Kd.R_drew)); exact HO_6.out))) (below_size (by repeat (first | (with_reducible first | exact HB.out | apply below_alloc | apply pw_below_drewN | apply below_drew1) | exact HB.out)))); have n4_ := Aside0.mk (below_step (by repeat (first | (with_reducible first | exact HB.out | apply below_alloc | apply pw_below_drewN | apply below_drew1) | exact HB.out)) hb); clear HO_5; clear HO_6; clear HO921; clear HB; have HO_5 := n0_; have HO_6 := n1_; have HO921 := n2_; have HO927 := n3_; have HB := n4_; clear n0_ n1_ n2_ n3_ n4_; (try clear hb); (try clear hb2); (try clear hk); (try clear hi); (try clear ho0)))
                  go_ret
                  exact ⟨by first | rfl | (simp [errW_none, errW_some] <;> rfl) | (simp [*, errW_none, errW_some] <;> rfl), by repeat (first | (with_reducible first | exact HB.out | apply below_alloc | apply pw_below_drewN | apply below_drew1) | exact HB.out)⟩
                ·replace c43 := Bool.eq_false_iff.mpr c43
                 subst c43
                 have H1 : (some false) = some r := by rw [if_neg (show ¬ (false = true) by decide)] at H; exact H
                 clear H
                 have H := H1
                 clear H1
                 obtain rfl := Option.some.inj H
                 go_wp2_with (first | ((with_reducible refine gate_callee (f := 32) rfl ?_); refine goesL_ (some 75) rfl rfl Try.func32 (by kernel_rfl) rfl #[.int .i64 x10_33, .int .i64 1] rfl (by (try simp only [List.map_toArray, List.map_cons, List.map_nil]); first | done | rfl | (simp only [List.length_drop, List.length_take]; rfl)) ?_; (with_reducible refine (tenetlaw02_at.calls x10_33 1 t914 t915 _ A36.out).mono ?_); rintro e w68 ⟨v916, rfl, ho0, hb⟩; refine ⟨_, rfl, ?_⟩; have n0_ := Aside0.mk (Kd.S_elder' (by (with_reducible repeat (first | apply Kd.S_alloc | apply Kd.S_drewN | apply Kd.S_drew)); exact HO_5.out) (Kd.R_base ho0) hb); have n1_ := Aside0.mk (Kd.R_below (by (with_reducible repeat (first | apply Kd.R_alloc | apply Kd.R_drewN | apply Kd.R_drew)); exact HO_6.out) hb); have n2_ := Aside0.mk (Kd.R_lower ho0 (below_size (by repeat (first | (with_reducible first | exact HB.out | apply below_alloc | apply pw_below_drewN | apply below_drew1) | exact HB.out)))); have n3_ := Aside0.mk (below_step (by repeat (first | (with_reducible first | exact HB.out | apply below_alloc | apply pw_below_drewN | apply below_drew1) | exact HB.out)) hb); clear HO_5; clear HO_6; clear HB; have HO_5 := n0_; have HO_6 := n1_; have HO917 := n2_; have HB := n3_; clear n0_ n1_ n2_ n3_; (try clear hb); (try clear hb2); (try clear hk); (try clear hi); (try clear ho0); have p39 : 0 ≤ (x10_33 : Int) := of_decide_eq_true (by first | (with_reducible assumption) | assumption); have q39 : (x10_33 : Int) < ((x5_2.length : Int) : Int) := of_decide_eq_true (by first | (with_reducible assumption) | assumption); obtain ⟨go39, co39, eo39, gb39, gl39, cl39, HG39⟩ := Kd.S_form HO_5.out (by omega); (first | cases eo39 | (injection eo39 with ea_ en_ ec_; (first | subst ea_ | (injection ea_ with ea_; subst ea_)); subst ec_; clear en_)); have GB39 := Aside0.mk gb39; have GG39 := Aside0.mk HG39; clear gb39 gl39 HG39; obtain ⟨_, ce39, hcl39, hM39, hcc39, hfr39, _, _⟩ := Kd.S_elem HO_5.out z44 (x10_33 : Int) p39 q39; obtain ⟨ve39_1, ve39_3, rfl, ge39_1, ge39_3⟩ := k44_openM hM39; have hx39_0 : w68.cell? ⟨go39, (x10_33 : Int).toNat * 4, none⟩ = some (.int .i64 ((rd_T44 x5_2 x10_33).f0.f0)) := hcc39 0 _ rfl; have hx39_1 : w68.cell? ⟨go39, (x10_33 : Int).toNat * 4 + 1, none⟩ = some (ve39_1) := hcc39 1 _ rfl; have hx39_2 : w68.cell? ⟨go39, (x10_33 : Int).toNat * 4 + 2, none⟩ = some (.int .i64 ((rd_T44 x5_2 x10_33).f1.f0)) := hcc39 2 _ rfl; have hx39_3 : w68.cell? ⟨go39, (x10_33 : Int).toNat * 4 + 3, none⟩ = some (ve39_3) := hcc39 3 _ rfl; have hf39_0 : w68.frozen? ⟨go39, (x10_33 : Int).toNat * 4, none⟩ = false := hfr39 0; have hf39_1 : w68.frozen? ⟨go39, (x10_33 : Int).toNat * 4 + 1, none⟩ = false := hfr39 1; have hf39_2 : w68.frozen? ⟨go39, (x10_33 : Int).toNat * 4 + 2, none⟩ = false := hfr39 2; have hf39_3 : w68.frozen? ⟨go39, (x10_33 : Int).toNat * 4 + 3, none⟩ = false := hfr39 3; clear hcl39 hcc39 hfr39 hM39; replace p39 := eq_true p39; replace q39 := eq_true q39; have n_ := Aside0.mk (Kd.S_mono (ok' := (fun k_ => some k_ ≠ (v916 : Value).ownBlock)) HO_5.out (fun k_ hk => hk.2)); clear HO_5; have HO_5 := n_; clear n_; have HX69 := Aside0.mk (show Kd.S k44 44 w68 w.heap.size (fun k_ => ((fun _ => True)) k_ ∧ ¬ ((fun k_ => some k_ = (v916 : Value).ownBlock)) k_) (.slice (some ⟨go39, 0, none⟩) x5_2.length co23) x5_2 from (by (with_reducible repeat (first | apply Kd.S_alloc | apply Kd.S_drewN | apply Kd.S_drew)); exact Kd.S_mono HO_5.out (fun k_ hk => ⟨trivial, fun e_ => hk e_⟩))); obtain ⟨oki69, ce69, hcl69, hM69, hcc69, hfr69, hoki69, hH69⟩ := Kd.S_elem HX69.out z44 (x10_33 : Int) (of_decide_eq_true (by first | (with_reducible assumption) | assumption)) (by have h_ : (x10_33 : Int) < ((x5_2.length : Int) : Int) := of_decide_eq_true (by first | (with_reducible assumption) | assumption); first | exact h_ | (have e_ := (Kd.S_reads' HO_5.out).1; omega) | simpa using h_); obtain ⟨ve69_1, ve69_3, rfl, ge69_1, ge69_3⟩ := k44_openM hM69; have HP69 := Kd.S_seg hH69 (of_decide_eq_true (by first | (with_reducible assumption) | assumption)) (by have h_ : (x10_33 : Int) < ((x5_2.length : Int) : Int) := of_decide_eq_true (by first | (with_reducible assumption) | assumption); first | exact h_ | (have e_ := (Kd.S_reads' HO_5.out).1; omega) | simpa using h_) (seg := [.int .i64 t914, v916]) (j := 0) (show 2 ≤ 4 from by decide) (x' := (⟨(⟨t914, t915⟩ : S41), (⟨(rd_T44 x5_2 x10_33).f1.f0, (rd_T44 x5_2 x10_33).f1.f1⟩ : S41)⟩ : S44)) (k44_mkM _ _ _ (⟨(⟨t914, t915⟩ : S41), (⟨(rd_T44 x5_2 x10_33).f1.f0, (rd_T44 x5_2 x10_33).f1.f1⟩ : S41)⟩ : S44) (Kd.R_mono (Kd.R_tight rfl (Kd.R_mono (ok' := fun k_ => ((fun _ => True)) k_ ∧ k_ ≠ go39) (Kd.R_apart' (HO917.out) (Kd.S_typed HO_5.out) (by decide)) (fun k_ hk => ⟨trivial, fun e_ => (hk.2) (by rw [e_]; rfl)⟩))) (fun _ h_ => Or.inr (h_))) (Kd.R_mono ge69_3 (fun _ h_ => Or.inl h_))) (fun _ hk => hk) (fun k_ hk_ => ((Kd.R_mono (ok' := fun k_ => ((fun _ => True)) k_ ∧ k_ ≠ go39) (Kd.R_apart' (HO917.out) (Kd.S_typed HO_5.out) (by decide)) (fun k_ hk => ⟨trivial, fun e_ => (hk.2) (by rw [e_]; rfl)⟩))).1 k_ hk_.symm); have hx69_0 := hcc69 0 _ rfl; (try simp only [show (k44).sz = 4 from rfl, Nat.mul_one, Nat.add_zero] at hx69_0); have hf69_0 := hfr69 0; (try simp only [show (k44).sz = 4 from rfl, Nat.mul_one, Nat.add_zero] at hf69_0); have hx69_1 := hcc69 1 _ rfl; (try simp only [show (k44).sz = 4 from rfl, Nat.mul_one, Nat.add_zero] at hx69_1); have hf69_1 := hfr69 1; (try simp only [show (k44).sz = 4 from rfl, Nat.mul_one, Nat.add_zero] at hf69_1); clear hcl69 hcc69 hfr69 hM69 hoki69 hH69) | ((with_reducible refine gate_store (t := 41) (p := 77) rfl ?_); refine store_event (t := 41) (p := 77) (v := ?vo_w70) (w1 := ((w68.setCell ⟨go39, (x10_33 : Int).toNat * 4, none⟩ (.int .i64 t914)).setCell ⟨go39, (x10_33 : Int).toNat * 4 + 1, none⟩ (v916))) ?hg ?ho ?hn ?hr ?_; (case ho => rfl); (case hg => rfl); (case hn => rfl); (case hr => (go_simp; rw [store_slice HO917.out]; go_simp)); intro w70 hw; have hg : w68.grownBy w70 (some go39) := (by rw [hw]; exact HP69.2); have hp_ : Kd.S k44 44 w70 w.heap.size (fun _ => True) (.slice (some ⟨go39, 0, none⟩) x5_2.length co23) y918 := (by rw [hw, Ny918.out]; exact HP69.1); clear HP69; have n0_ := Aside0.mk (hp_); have n1_ := Aside0.mk (Kd.R_over' (v := (.slice (some ⟨go39, 0, none⟩) x5_2.length co23)) (by (with_reducible repeat (first | apply Kd.R_alloc | apply Kd.R_drewN | apply Kd.R_drew)); exact HO_6.out) (Kd.S_typed HO_5.out) (by decide) hg); have n2_ := Aside0.mk ((by rw [hw]; exact below_set (below_set (HB.out) GB39.out) GB39.out : Below w.heap.size w w70)); clear HO_5; clear HO_6; clear HB; clear HO917; have HO_5 := n0_; have HO_6 := n1_; have HB := n2_; clear n0_ n1_ n2_; clear hg hw hp_) | ((with_reducible refine gate_callee (f := 22) rfl ?_); refine goesL_ (some 81) rfl rfl Try.func22 (by kernel_rfl) rfl #[.int .i64 a0, .slice (some ⟨go39, 0, none⟩) y918.length co23] rfl (by (try simp only [List.map_toArray, List.map_cons, List.map_nil]); first | done | (rw [show y918.length = x5_2.length from (Kd.S_reads' HO_5.out).1.symm] <;> rfl) | rfl | (simp only [List.length_drop, List.length_take]; rfl)) ?_; (with_reducible refine (graph_Solve.calls kj33 a0 _ _ y918 t919 t922 _ ?side1 ?side2 A40.out).mono ?_); (case side1 => repeat (first | exact (Kd.S_reads' HO_5.out).2.2 | (with_reducible refine Kd.C_alloc ?_ _) | (with_reducible refine Kd.C_drewN ?_ _) | (with_reducible refine Kd.C_drew ?_))); (case side2 => rw [show y918.length = x5_2.length from (Kd.S_reads' HO_5.out).1.symm]; exact (Kd.S_reads' HO_5.out).2.1); rintro e w71 ⟨v920, rfl, ho0, hb⟩; refine ⟨_, rfl, ?_⟩; have n0_ := Aside0.mk (Kd.S_below (by (with_reducible repeat (first | apply Kd.S_alloc | apply Kd.S_drewN | apply Kd.S_drew)); exact HO_5.out) hb); have n1_ := Aside0.mk (Kd.R_below (by (with_reducible repeat (first | apply Kd.R_alloc | apply Kd.R_drewN | apply Kd.R_drew)); exact HO_6.out) hb); have n2_ := Aside0.mk (Kd.V_lower (Kd.V_mono (ok' := fun k_ => some k_ ≠ (.slice (some ⟨go39, 0, none⟩) x5_2.length co23 : Value).ownBlock ∧ some k_ ≠ (u6 : Value).ownBlock) ho0 (fun k_ hk_ => ⟨(Kd.fresh' (Kd.S_lt (by (with_reducible repeat (first | apply Kd.S_alloc | apply Kd.S_drewN | apply Kd.S_drew)); exact HO_5.out)) k_ hk_), (Kd.fresh' (Kd.R_lt (by (with_reducible repeat (first | apply Kd.R_alloc | apply Kd.R_drewN | apply Kd.R_drew)); exact HO_6.out)) k_ hk_)⟩)) (below_size (by repeat (first | (with_reducible first | exact HB.out | apply below_alloc | apply pw_below_drewN | apply below_drew1) | exact HB.out)))); have n3_ := Aside0.mk (below_step (by repeat (first | (with_reducible first | exact HB.out | apply below_alloc | apply pw_below_drewN | apply below_drew1) | exact HB.out)) hb); clear HO_5; clear HO_6; clear HB; have HO_5 := n0_; have HO_6 := n1_; have HO921 := n2_; have HB := n3_; clear n0_ n1_ n2_ n3_; (try clear hb); (try clear hb2); (try clear hk); (try clear hi); (try clear ho0)) | ((with_reducible refine gate_callee (f := 45) rfl ?_); refine goesL_ (some 87) rfl rfl Try.func45 (by kernel_rfl) rfl #[.int .i64 a0, .slice (some ⟨go39, 0, none⟩) y918.length co23] rfl (by (try simp only [List.map_toArray, List.map_cons, List.map_nil]); first | done | (rw [show y918.length = x5_2.length from (Kd.S_reads' HO_5.out).1.symm] <;> rfl) | rfl | (simp only [List.length_drop, List.length_take]; rfl)) ?_; (with_reducible refine (graph_Explain.calls kj33 a0 _ _ y918 t923 false t925 _ ?side1 ?side2 A41.out).mono ?_); (case side1 => repeat (first | exact (Kd.S_reads' HO_5.out).2.2 | (with_reducible refine Kd.C_alloc ?_ _) | (with_reducible refine Kd.C_drewN ?_ _) | (with_reducible refine Kd.C_drew ?_))); (case side2 => rw [show y918.length = x5_2.length from (Kd.S_reads' HO_5.out).1.symm]; exact (Kd.S_reads' HO_5.out).2.1); rintro e w72 ⟨v926, rfl, ho0, hb⟩; refine ⟨_, rfl, ?_⟩; have n0_ := Aside0.mk (Kd.S_below (by (with_reducible repeat (first | apply Kd.S_alloc | apply Kd.S_drewN | apply Kd.S_drew)); exact HO_5.out) hb); have n1_ := Aside0.mk (Kd.R_elder' (by (with_reducible repeat (first | apply Kd.R_alloc | apply Kd.R_drewN | apply Kd.R_drew)); exact HO_6.out) (Kd.R_base ho0) hb); have n2_ := Aside0.mk (Kd.V_elder' (by (with_reducible repeat (first | apply Kd.V_alloc | apply Kd.V_drewN | apply Kd.V_drew)); exact HO921.out) (Kd.R_base ho0) hb); have n3_ := Aside0.mk (Kd.R_lower (Kd.R_new' ho0 (Kd.R_lt (by (with_reducible repeat (first | apply Kd.R_alloc | apply Kd.R_drewN | apply Kd.R_drew)); exact HO_6.out))) (below_size (by repeat (first | (with_reducible first | exact HB.out | apply below_alloc | apply pw_below_drewN | apply below_drew1) | exact HB.out)))); have n4_ := Aside0.mk (below_step (by repeat (first | (with_reducible first | exact HB.out | apply below_alloc | apply pw_below_drewN | apply below_drew1) | exact HB.out)) hb); clear HO_5; clear HO_6; clear HO921; clear HB; have HO_5 := n0_; have HO_6 := n1_; have HO921 := n2_; have HO927 := n3_; have HB := n4_; clear n0_ n1_ n2_ n3_ n4_; (try clear hb); (try clear hb2); (try clear hk); (try clear hi); (try clear ho0)))
                 go_ret
                 exact ⟨by first | rfl | (simp [errW_none, errW_some] <;> rfl) | (simp [*, errW_none, errW_some] <;> rfl), by repeat (first | (with_reducible first | exact HB.out | apply below_alloc | apply pw_below_drewN | apply below_drew1) | exact HB.out)⟩
               ·rw [if_neg c42] at H
                have c42b0 : (t922 == 20) = false := beq_eq_false_iff_ne.mpr c42
                have c42b1 : (t922 != 20) = true := bne_iff_ne.mpr c42
                obtain rfl := Option.some.inj H
                go_wp2_with (first | ((with_reducible refine gate_callee (f := 32) rfl ?_); refine goesL_ (some 75) rfl rfl Try.func32 (by kernel_rfl) rfl #[.int .i64 x10_33, .int .i64 1] rfl (by (try simp only [List.map_toArray, List.map_cons, List.map_nil]); first | done | rfl | (simp only [List.length_drop, List.length_take]; rfl)) ?_; (with_reducible refine (tenetlaw02_at.calls x10_33 1 t914 t915 _ A36.out).mono ?_); rintro e w73 ⟨v916, rfl, ho0, hb⟩; refine ⟨_, rfl, ?_⟩; have n0_ := Aside0.mk (Kd.S_elder' (by (with_reducible repeat (first | apply Kd.S_alloc | apply Kd.S_drewN | apply Kd.S_drew)); exact HO_5.out) (Kd.R_base ho0) hb); have n1_ := Aside0.mk (Kd.R_below (by (with_reducible repeat (first | apply Kd.R_alloc | apply Kd.R_drewN | apply Kd.R_drew)); exact HO_6.out) hb); have n2_ := Aside0.mk (Kd.R_lower ho0 (below_size (by repeat (first | (with_reducible first | exact HB.out | apply below_alloc | apply pw_below_drewN | apply below_drew1) | exact HB.out)))); have n3_ := Aside0.mk (below_step (by repeat (first | (with_reducible first | exact HB.out | apply below_alloc | apply pw_below_drewN | apply below_drew1) | exact HB.out)) hb); clear HO_5; clear HO_6; clear HB; have HO_5 := n0_; have HO_6 := n1_; have HO917 := n2_; have HB := n3_; clear n0_ n1_ n2_ n3_; (try clear hb); (try clear hb2); (try clear hk); (try clear hi); (try clear ho0); have p39 : 0 ≤ (x10_33 : Int) := of_decide_eq_true (by first | (with_reducible assumption) | assumption); have q39 : (x10_33 : Int) < ((x5_2.length : Int) : Int) := of_decide_eq_true (by first | (with_reducible assumption) | assumption); obtain ⟨go39, co39, eo39, gb39, gl39, cl39, HG39⟩ := Kd.S_form HO_5.out (by omega); (first | cases eo39 | (injection eo39 with ea_ en_ ec_; (first | subst ea_ | (injection ea_ with ea_; subst ea_)); subst ec_; clear en_)); have GB39 := Aside0.mk gb39; have GG39 := Aside0.mk HG39; clear gb39 gl39 HG39; obtain ⟨_, ce39, hcl39, hM39, hcc39, hfr39, _, _⟩ := Kd.S_elem HO_5.out z44 (x10_33 : Int) p39 q39; obtain ⟨ve39_1, ve39_3, rfl, ge39_1, ge39_3⟩ := k44_openM hM39; have hx39_0 : w73.cell? ⟨go39, (x10_33 : Int).toNat * 4, none⟩ = some (.int .i64 ((rd_T44 x5_2 x10_33).f0.f0)) := hcc39 0 _ rfl; have hx39_1 : w73.cell? ⟨go39, (x10_33 : Int).toNat * 4 + 1, none⟩ = some (ve39_1) := hcc39 1 _ rfl; have hx39_2 : w73.cell? ⟨go39, (x10_33 : Int).toNat * 4 + 2, none⟩ = some (.int .i64 ((rd_T44 x5_2 x10_33).f1.f0)) := hcc39 2 _ rfl; have hx39_3 : w73.cell? ⟨go39, (x10_33 : Int).toNat * 4 + 3, none⟩ = some (ve39_3) := hcc39 3 _ rfl; have hf39_0 : w73.frozen? ⟨go39, (x10_33 : Int).toNat * 4, none⟩ = false := hfr39 0; have hf39_1 : w73.frozen? ⟨go39, (x10_33 : Int).toNat * 4 + 1, none⟩ = false := hfr39 1; have hf39_2 : w73.frozen? ⟨go39, (x10_33 : Int).toNat * 4 + 2, none⟩ = false := hfr39 2; have hf39_3 : w73.frozen? ⟨go39, (x10_33 : Int).toNat * 4 + 3, none⟩ = false := hfr39 3; clear hcl39 hcc39 hfr39 hM39; replace p39 := eq_true p39; replace q39 := eq_true q39; have n_ := Aside0.mk (Kd.S_mono (ok' := (fun k_ => some k_ ≠ (v916 : Value).ownBlock)) HO_5.out (fun k_ hk => hk.2)); clear HO_5; have HO_5 := n_; clear n_; have HX74 := Aside0.mk (show Kd.S k44 44 w73 w.heap.size (fun k_ => ((fun _ => True)) k_ ∧ ¬ ((fun k_ => some k_ = (v916 : Value).ownBlock)) k_) (.slice (some ⟨go39, 0, none⟩) x5_2.length co23) x5_2 from (by (with_reducible repeat (first | apply Kd.S_alloc | apply Kd.S_drewN | apply Kd.S_drew)); exact Kd.S_mono HO_5.out (fun k_ hk => ⟨trivial, fun e_ => hk e_⟩))); obtain ⟨oki74, ce74, hcl74, hM74, hcc74, hfr74, hoki74, hH74⟩ := Kd.S_elem HX74.out z44 (x10_33 : Int) (of_decide_eq_true (by first | (with_reducible assumption) | assumption)) (by have h_ : (x10_33 : Int) < ((x5_2.length : Int) : Int) := of_decide_eq_true (by first | (with_reducible assumption) | assumption); first | exact h_ | (have e_ := (Kd.S_reads' HO_5.out).1; omega) | simpa using h_); obtain ⟨ve74_1, ve74_3, rfl, ge74_1, ge74_3⟩ := k44_openM hM74; have HP74 := Kd.S_seg hH74 (of_decide_eq_true (by first | (with_reducible assumption) | assumption)) (by have h_ : (x10_33 : Int) < ((x5_2.length : Int) : Int) := of_decide_eq_true (by first | (with_reducible assumption) | assumption); first | exact h_ | (have e_ := (Kd.S_reads' HO_5.out).1; omega) | simpa using h_) (seg := [.int .i64 t914, v916]) (j := 0) (show 2 ≤ 4 from by decide) (x' := (⟨(⟨t914, t915⟩ : S41), (⟨(rd_T44 x5_2 x10_33).f1.f0, (rd_T44 x5_2 x10_33).f1.f1⟩ : S41)⟩ : S44)) (k44_mkM _ _ _ (⟨(⟨t914, t915⟩ : S41), (⟨(rd_T44 x5_2 x10_33).f1.f0, (rd_T44 x5_2 x10_33).f1.f1⟩ : S41)⟩ : S44) (Kd.R_mono (Kd.R_tight rfl (Kd.R_mono (ok' := fun k_ => ((fun _ => True)) k_ ∧ k_ ≠ go39) (Kd.R_apart' (HO917.out) (Kd.S_typed HO_5.out) (by decide)) (fun k_ hk => ⟨trivial, fun e_ => (hk.2) (by rw [e_]; rfl)⟩))) (fun _ h_ => Or.inr (h_))) (Kd.R_mono ge74_3 (fun _ h_ => Or.inl h_))) (fun _ hk => hk) (fun k_ hk_ => ((Kd.R_mono (ok' := fun k_ => ((fun _ => True)) k_ ∧ k_ ≠ go39) (Kd.R_apart' (HO917.out) (Kd.S_typed HO_5.out) (by decide)) (fun k_ hk => ⟨trivial, fun e_ => (hk.2) (by rw [e_]; rfl)⟩))).1 k_ hk_.symm); have hx74_0 := hcc74 0 _ rfl; (try simp only [show (k44).sz = 4 from rfl, Nat.mul_one, Nat.add_zero] at hx74_0); have hf74_0 := hfr74 0; (try simp only [show (k44).sz = 4 from rfl, Nat.mul_one, Nat.add_zero] at hf74_0); have hx74_1 := hcc74 1 _ rfl; (try simp only [show (k44).sz = 4 from rfl, Nat.mul_one, Nat.add_zero] at hx74_1); have hf74_1 := hfr74 1; (try simp only [show (k44).sz = 4 from rfl, Nat.mul_one, Nat.add_zero] at hf74_1); clear hcl74 hcc74 hfr74 hM74 hoki74 hH74) | ((with_reducible refine gate_store (t := 41) (p := 77) rfl ?_); refine store_event (t := 41) (p := 77) (v := ?vo_w75) (w1 := ((w73.setCell ⟨go39, (x10_33 : Int).toNat * 4, none⟩ (.int .i64 t914)).setCell ⟨go39, (x10_33 : Int).toNat * 4 + 1, none⟩ (v916))) ?hg ?ho ?hn ?hr ?_; (case ho => rfl); (case hg => rfl); (case hn => rfl); (case hr => (go_simp; rw [store_slice HO917.out]; go_simp)); intro w75 hw; have hg : w73.grownBy w75 (some go39) := (by rw [hw]; exact HP74.2); have hp_ : Kd.S k44 44 w75 w.heap.size (fun _ => True) (.slice (some ⟨go39, 0, none⟩) x5_2.length co23) y918 := (by rw [hw, Ny918.out]; exact HP74.1); clear HP74; have n0_ := Aside0.mk (hp_); have n1_ := Aside0.mk (Kd.R_over' (v := (.slice (some ⟨go39, 0, none⟩) x5_2.length co23)) (by (with_reducible repeat (first | apply Kd.R_alloc | apply Kd.R_drewN | apply Kd.R_drew)); exact HO_6.out) (Kd.S_typed HO_5.out) (by decide) hg); have n2_ := Aside0.mk ((by rw [hw]; exact below_set (below_set (HB.out) GB39.out) GB39.out : Below w.heap.size w w75)); clear HO_5; clear HO_6; clear HB; clear HO917; have HO_5 := n0_; have HO_6 := n1_; have HB := n2_; clear n0_ n1_ n2_; clear hg hw hp_) | ((with_reducible refine gate_callee (f := 22) rfl ?_); refine goesL_ (some 81) rfl rfl Try.func22 (by kernel_rfl) rfl #[.int .i64 a0, .slice (some ⟨go39, 0, none⟩) y918.length co23] rfl (by (try simp only [List.map_toArray, List.map_cons, List.map_nil]); first | done | (rw [show y918.length = x5_2.length from (Kd.S_reads' HO_5.out).1.symm] <;> rfl) | rfl | (simp only [List.length_drop, List.length_take]; rfl)) ?_; (with_reducible refine (graph_Solve.calls kj33 a0 _ _ y918 t919 t922 _ ?side1 ?side2 A40.out).mono ?_); (case side1 => repeat (first | exact (Kd.S_reads' HO_5.out).2.2 | (with_reducible refine Kd.C_alloc ?_ _) | (with_reducible refine Kd.C_drewN ?_ _) | (with_reducible refine Kd.C_drew ?_))); (case side2 => rw [show y918.length = x5_2.length from (Kd.S_reads' HO_5.out).1.symm]; exact (Kd.S_reads' HO_5.out).2.1); rintro e w76 ⟨v920, rfl, ho0, hb⟩; refine ⟨_, rfl, ?_⟩; have n0_ := Aside0.mk (Kd.S_below (by (with_reducible repeat (first | apply Kd.S_alloc | apply Kd.S_drewN | apply Kd.S_drew)); exact HO_5.out) hb); have n1_ := Aside0.mk (Kd.R_below (by (with_reducible repeat (first | apply Kd.R_alloc | apply Kd.R_drewN | apply Kd.R_drew)); exact HO_6.out) hb); have n2_ := Aside0.mk (Kd.V_lower (Kd.V_mono (ok' := fun k_ => some k_ ≠ (.slice (some ⟨go39, 0, none⟩) x5_2.length co23 : Value).ownBlock ∧ some k_ ≠ (u6 : Value).ownBlock) ho0 (fun k_ hk_ => ⟨(Kd.fresh' (Kd.S_lt (by (with_reducible repeat (first | apply Kd.S_alloc | apply Kd.S_drewN | apply Kd.S_drew)); exact HO_5.out)) k_ hk_), (Kd.fresh' (Kd.R_lt (by (with_reducible repeat (first | apply Kd.R_alloc | apply Kd.R_drewN | apply Kd.R_drew)); exact HO_6.out)) k_ hk_)⟩)) (below_size (by repeat (first | (with_reducible first | exact HB.out | apply below_alloc | apply pw_below_drewN | apply below_drew1) | exact HB.out)))); have n3_ := Aside0.mk (below_step (by repeat (first | (with_reducible first | exact HB.out | apply below_alloc | apply pw_below_drewN | apply below_drew1) | exact HB.out)) hb); clear HO_5; clear HO_6; clear HB; have HO_5 := n0_; have HO_6 := n1_; have HO921 := n2_; have HB := n3_; clear n0_ n1_ n2_ n3_; (try clear hb); (try clear hb2); (try clear hk); (try clear hi); (try clear ho0)) | ((with_reducible refine gate_callee (f := 45) rfl ?_); refine goesL_ (some 87) rfl rfl Try.func45 (by kernel_rfl) rfl #[.int .i64 a0, .slice (some ⟨go39, 0, none⟩) y918.length co23] rfl (by (try simp only [List.map_toArray, List.map_cons, List.map_nil]); first | done | (rw [show y918.length = x5_2.length from (Kd.S_reads' HO_5.out).1.symm] <;> rfl) | rfl | (simp only [List.length_drop, List.length_take]; rfl)) ?_; (with_reducible refine (graph_Explain.calls kj33 a0 _ _ y918 t923 t924 t925 _ ?side1 ?side2 A41.out).mono ?_); (case side1 => repeat (first | exact (Kd.S_reads' HO_5.out).2.2 | (with_reducible refine Kd.C_alloc ?_ _) | (with_reducible refine Kd.C_drewN ?_ _) | (with_reducible refine Kd.C_drew ?_))); (case side2 => rw [show y918.length = x5_2.length from (Kd.S_reads' HO_5.out).1.symm]; exact (Kd.S_reads' HO_5.out).2.1); rintro e w77 ⟨v926, rfl, ho0, hb⟩; refine ⟨_, rfl, ?_⟩; have n0_ := Aside0.mk (Kd.S_below (by (with_reducible repeat (first | apply Kd.S_alloc | apply Kd.S_drewN | apply Kd.S_drew)); exact HO_5.out) hb); have n1_ := Aside0.mk (Kd.R_elder' (by (with_reducible repeat (first | apply Kd.R_alloc | apply Kd.R_drewN | apply Kd.R_drew)); exact HO_6.out) (Kd.R_base ho0) hb); have n2_ := Aside0.mk (Kd.V_elder' (by (with_reducible repeat (first | apply Kd.V_alloc | apply Kd.V_drewN | apply Kd.V_drew)); exact HO921.out) (Kd.R_base ho0) hb); have n3_ := Aside0.mk (Kd.R_lower (Kd.R_new' ho0 (Kd.R_lt (by (with_reducible repeat (first | apply Kd.R_alloc | apply Kd.R_drewN | apply Kd.R_drew)); exact HO_6.out))) (below_size (by repeat (first | (with_reducible first | exact HB.out | apply below_alloc | apply pw_below_drewN | apply below_drew1) | exact HB.out)))); have n4_ := Aside0.mk (below_step (by repeat (first | (with_reducible first | exact HB.out | apply below_alloc | apply pw_below_drewN | apply below_drew1) | exact HB.out)) hb); clear HO_5; clear HO_6; clear HO921; clear HB; have HO_5 := n0_; have HO_6 := n1_; have HO921 := n2_; have HO927 := n3_; have HB := n4_; clear n0_ n1_ n2_ n3_ n4_; (try clear hb); (try clear hb2); (try clear hk); (try clear hi); (try clear ho0)))
                go_ret
                exact ⟨by first | rfl | (simp [errW_none, errW_some] <;> rfl) | (simp [*, errW_none, errW_some] <;> rfl), by repeat (first | (with_reducible first | exact HB.out | apply below_alloc | apply pw_below_drewN | apply below_drew1) | exact HB.out)⟩
              ·rw [if_neg c38] at H
               exact absurd H (by simp)
             ·rw [if_neg c37] at H
              exact absurd H (by simp)
def tenetlaw02_GraphCircles.Pure : Prop := ∀ (a0 : Int) (a1 : Int), (Lit.int .i64 a0).wf = true → (Lit.int .i64 a1).wf = true → ∃ k, tenetlaw02_GraphCircles.f k a0 a1 = some true
theorem tenetlaw02_GraphCircles.walk (P : tenetlaw02_GraphCircles.Pure) (a0 : Int) (a1 : Int) (w : World) (w0 : (Lit.int .i64 a0).wf = true) (w1 : (Lit.int .i64 a1).wf = true) :
  Calls Try.prog 18 #[.int .i64 a0, .int .i64 a1] w fun e w' => e = .returned (.bool true) ∧ Below w.heap.size w w' := by
 obtain ⟨k, h⟩ := P a0 a1 w0 w1
 refine (tenetlaw02_GraphCircles.calls k a0 a1 true w h).mono ?_
 rintro e w' ⟨rfl, hd⟩
 exact ⟨rfl, hd⟩
end Go.Proofs.Ytegejpcglabhbaa.G
