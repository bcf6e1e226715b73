/- The law SizesAssociates: the walk. No condition. -/
import Derived.Test.YtiepinfcndefhaaTe
namespace Go.Proofs.Ytiepinfcndefhaa.S
open Go.RowKit Go.Proofs.YtiepinfcndefhaaW.PrintWords Go.Proofs.YtiepinfcndefhaaW.PrintLast Go.Proofs.YtiepinfcndefhaaW.PrintMore
set_option linter.unusedVariables false
set_option linter.unusedSimpArgs false

/-- A call in a block. -/
def Blk (W : World) (b : Nat) (d : Cl) (A : Option Addr) (c : Nat) : Prop := W.heap[b]? = some (.cells #[.string d.src, .string d.dst, .slice A d.arcs.length c] 34 (0, 0))
theorem Blk.go {W W2 : World} {b c : Nat} {d : Cl} {A : Option Addr} (h : Blk W b d A c) (hb : Below W.heap.size W W2) : Blk W2 b d A c := blk_below h hb
theorem Blk.cells {W : World} {b c : Nat} {d : Cl} {A : Option Addr} (h : Blk W b d A c) : W.cell? ⟨b, 0, none⟩ = some (.string d.src) ∧ W.cell? ⟨b, 1, none⟩ = some (.string d.dst) ∧ W.cell? ⟨b, 2, none⟩ = some (.slice A d.arcs.length c) := ⟨blk_at h (k := 0) rfl, blk_at h (k := 1) rfl, blk_at h (k := 2) rfl⟩
/-- The three boxes. -/
structure Bx (w W : World) (a b c : Cl) (A B C : Option Addr) (p q r : Nat) : Prop where
  below : Below w.heap.size w W
  h0 : Blk W w.heap.size a A p
  h1 : Blk W (w.heap.size + 1) b B q
  h2 : Blk W (w.heap.size + 1 + 1) c C r
theorem Bx.go {w W W2 : World} {a b c : Cl} {A B C : Option Addr} {p q r : Nat} (t : Bx w W a b c A B C p q r) (h : Below W.heap.size W W2) : Bx w W2 a b c A B C p q r := ⟨below_step t.below h, t.h0.go h, t.h1.go h, t.h2.go h⟩
theorem Bx.mk0 (w : World) (a b c : Cl) (A B C : Option Addr) (p q r : Nat) : Bx w (((w.alloc (.cells #[.string a.src, .string a.dst, .slice A a.arcs.length p] 34)).alloc (.cells #[.string b.src, .string b.dst, .slice B b.arcs.length q] 34)).alloc (.cells #[.string c.src, .string c.dst, .slice C c.arcs.length r] 34)) a b c A B C p q r := by
  have st : ∀ (W : World) (o : Obj), Below W.heap.size W (W.alloc o) := fun W o => below_alloc (Below.refl _ _) o
  refine ⟨below_step (below_step (st _ _) (st _ _)) (st _ _), blk_below (blk_below (blk_new w _) (st _ _)) (st _ _), ?_, ?_⟩
  · have h1 := blk_new (w.alloc (.cells #[.string a.src, .string a.dst, .slice A a.arcs.length p] 34)) (.cells #[.string b.src, .string b.dst, .slice B b.arcs.length q] 34)
    rw [World.size_alloc] at h1
    exact blk_below h1 (st _ _)
  · have h1 := blk_new ((w.alloc (.cells #[.string a.src, .string a.dst, .slice A a.arcs.length p] 34)).alloc (.cells #[.string b.src, .string b.dst, .slice B b.arcs.length q] 34)) (.cells #[.string c.src, .string c.dst, .slice C c.arcs.length r] 34)
    rw [World.size_alloc, World.size_alloc] at h1
    exact h1
theorem arcs_of {c : Cl} (h : bigC c = false) : c.arcs.length ≤ 1000000 := by
  simp only [bigC, Bool.or_eq_false_iff, decide_eq_false_iff_not] at h
  omega
theorem compF_arcs (a b : Cl) : (compF a b).1.arcs.length ≤ 1000000 := by
  unfold compF
  cases readC a with
  | none => simp [dfC]
  | some g =>
    cases readC b with
    | none => simp [dfC]
    | some k =>
      simp only
      split
      · have := arcsN_len (thenG g k).tab 36
        show (arcsN (thenG g k).tab 36).length ≤ 1000000
        omega
      · simp [dfC]
theorem eqd_calls {W : World} {A B : Option Addr} {cp cq : Nat} (d : Cl) (ha : kAc.C W A d.arcs.length d.arcs) (hb : kAc.C W B d.arcs.length d.arcs) : ∀ W2, Below W.heap.size W W2 →
    Calls Try.prog 19 #[.agg #[.string d.src, .string d.dst, .slice A d.arcs.length cp], .agg #[.string d.src, .string d.dst, .slice B d.arcs.length cq]] W2 fun e w' => e = .returned (.bool true) ∧ Below W2.heap.size W2 w' := fun W2 h => by
  have h1 := eq_calls A B cp cq d d W2 (Kd.C_below ha h) (Kd.C_below hb h)
  rw [eqC_self] at h1
  exact h1
set_option maxHeartbeats 4000000 in
set_option maxRecDepth 100000 in
theorem assoc_calls (A : Option Addr) (p : Nat) (a : Cl) (B : Option Addr) (q : Nat) (b : Cl) (C : Option Addr) (r : Nat) (c : Cl) (w : World) (hna : a.arcs.length ≤ p) (ha : kAc.C w A a.arcs.length a.arcs) (hnb : b.arcs.length ≤ q) (hb : kAc.C w B b.arcs.length b.arcs) (hnc : c.arcs.length ≤ r) (hc : kAc.C w C c.arcs.length c.arcs) :
    Calls Try.prog 5 #[.agg #[.string a.src, .string a.dst, .slice A a.arcs.length p], .agg #[.string b.src, .string b.dst, .slice B b.arcs.length q], .agg #[.string c.src, .string c.dst, .slice C c.arcs.length r]] w fun e w' => e = .returned (.bool true) ∧ Below w.heap.size w w' := by
  have HA := Aside0.mk ha
  have HB := Aside0.mk hb
  have HC := Aside0.mk hc
  have HT0 := Aside0.mk (Bx.mk0 w a b c A B C p q r)
  have HXa := Aside0.mk (fun W => bigCall_calls A p a W)
  have HXb := Aside0.mk (fun W => bigCall_calls B q b W)
  have HXc := Aside0.mk (fun W => bigCall_calls C r c W)
  clear ha hb hc hna hnb hnc
  cases h1 : bigC a with
  | true =>
    rw [h1] at HXa
    clear h1
    go_enter Try.func5, Try.ntmps5
    go_wp2_with (first | (go_at_call 17; refine (HXa.out _).mono ?_; rintro e w1 ⟨rfl, hb1⟩; have HT1 := Aside0.mk (HT0.out.go hb1); clear hb1 HXa) | (go_at_call 12; refine (awake_calls _).mono ?_; rintro e wz ⟨rfl, hbz⟩; have HZ := Aside0.mk (below_step HT1.out.below hbz); clear hbz))
    go_ret
    exact ⟨rfl, HZ.out⟩
  | false =>
  rw [h1] at HXa
  cases h2 : bigC b with
  | true =>
    rw [h2] at HXb
    clear h1 h2
    go_enter Try.func5, Try.ntmps5
    go_wp2_with (first | (go_at_call 17; refine (HXa.out _).mono ?_; rintro e w1 ⟨rfl, hb1⟩; have HT1 := Aside0.mk (HT0.out.go hb1); clear hb1 HXa; obtain ⟨y10, y11, y12⟩ := Blk.cells HT1.out.h1) | (go_at_call 17; refine (HXb.out _).mono ?_; rintro e w2 ⟨rfl, hb2⟩; clear y10 y11 y12; have HT2 := Aside0.mk (HT1.out.go hb2); clear hb2 HXb) | (go_at_call 12; refine (awake_calls _).mono ?_; rintro e wz ⟨rfl, hbz⟩; have HZ := Aside0.mk (below_step HT2.out.below hbz); clear hbz))
    go_ret
    exact ⟨rfl, HZ.out⟩
  | false =>
  rw [h2] at HXb
  cases h3 : bigC c with
  | true =>
    rw [h3] at HXc
    clear h1 h2 h3
    go_enter Try.func5, Try.ntmps5
    go_wp2_with (first | (go_at_call 17; refine (HXa.out _).mono ?_; rintro e w1 ⟨rfl, hb1⟩; have HT1 := Aside0.mk (HT0.out.go hb1); clear hb1 HXa; obtain ⟨y10, y11, y12⟩ := Blk.cells HT1.out.h1) | (go_at_call 17; refine (HXb.out _).mono ?_; rintro e w2 ⟨rfl, hb2⟩; clear y10 y11 y12; have HT2 := Aside0.mk (HT1.out.go hb2); clear hb2 HXb; obtain ⟨y20, y21, y22⟩ := Blk.cells HT2.out.h2) | (go_at_call 17; refine (HXc.out _).mono ?_; rintro e w3 ⟨rfl, hb3⟩; clear y20 y21 y22; have HT3 := Aside0.mk (HT2.out.go hb3); clear hb3 HXc) | (go_at_call 12; refine (awake_calls _).mono ?_; rintro e wz ⟨rfl, hbz⟩; have HZ := Aside0.mk (below_step HT3.out.below hbz); clear hbz))
    go_ret
    exact ⟨rfl, HZ.out⟩
  | false =>
  rw [h3] at HXc
  have HLA := Aside0.mk (arcs_of h1)
  have HLB := Aside0.mk (arcs_of h2)
  have HLC := Aside0.mk (arcs_of h3)
  clear h1 h2 h3
  have HFA := Aside0.mk (fun h1 h2 => assoc_pure (a := a) (b := b) (c := c) h1 h2)
  have HD1 := Aside0.mk (compF_arcs a b)
  have HD2 := Aside0.mk (compF_arcs b c)
  have HAB := Aside0.mk (fun (W : World) (h : Below w.heap.size w W) => comp_calls A B p q a b W (Kd.C_below HA.out h) HLA.out (Kd.C_below HB.out h) HLB.out)
  have HBC := Aside0.mk (fun (W : World) (h : Below w.heap.size w W) => comp_calls B C q r b c W (Kd.C_below HB.out h) HLB.out (Kd.C_below HC.out h) HLC.out)
  cases hx : compF a b with
  | mk d1 y1 =>
  cases hy : compF b c with
  | mk d2 y2 =>
  rw [hx] at HAB HFA HD1
  rw [hy] at HBC HFA HD2
  clear hx hy
  by_cases z1 : y1 = 0
  · by_cases z2 : y2 = 0
    · obtain ⟨d3, hd1, hd2⟩ := HFA.out z1 z2
      subst z1
      subst z2
      have HE1 := Aside0.mk hd1
      have HE2 := Aside0.mk hd2
      clear hd1 hd2 HFA
      go_enter Try.func5, Try.ntmps5
      go_wp2_with (first | (go_at_call 17; refine (HXa.out _).mono ?_; rintro e w1 ⟨rfl, hb1⟩; have HT1 := Aside0.mk (HT0.out.go hb1); clear hb1 HXa; obtain ⟨y10, y11, y12⟩ := Blk.cells HT1.out.h1) | (go_at_call 17; refine (HXb.out _).mono ?_; rintro e w2 ⟨rfl, hb2⟩; clear y10 y11 y12; have HT2 := Aside0.mk (HT1.out.go hb2); clear hb2 HXb; obtain ⟨y20, y21, y22⟩ := Blk.cells HT2.out.h2) | (go_at_call 17; refine (HXc.out _).mono ?_; rintro e w3 ⟨rfl, hb3⟩; clear y20 y21 y22; have HT3 := Aside0.mk (HT2.out.go hb3); clear hb3 HXc; obtain ⟨y00, y01, y02⟩ := Blk.cells HT3.out.h0; obtain ⟨y10, y11, y12⟩ := Blk.cells HT3.out.h1) | (go_at_call 18; refine (HAB.out _ HT3.out.below).mono ?_; rintro e w4 ⟨v4, rfl, ⟨u4, rfl, hr4⟩, hb4⟩; obtain ⟨D1, k1, ev4⟩ := Kd.R_slice hr4; subst ev4; have HR4 := Aside0.mk hr4; have HT4 := Aside0.mk (HT3.out.go hb4); clear hb4 hr4 HAB; clear y00 y01 y02 y10 y11 y12; obtain ⟨y10, y11, y12⟩ := Blk.cells (HT4.out.go (below_alloc (Below.refl _ _) (.cells #[.string d1.src, .string d1.dst, .slice D1 d1.arcs.length k1] 34))).h1; obtain ⟨y20, y21, y22⟩ := Blk.cells (HT4.out.go (below_alloc (Below.refl _ _) (.cells #[.string d1.src, .string d1.dst, .slice D1 d1.arcs.length k1] 34))).h2) | (go_at_call 18; refine (HBC.out _ (below_step HT4.out.below (below_alloc (Below.refl _ _) _))).mono ?_; rintro e w5 ⟨v5, rfl, ⟨u5, rfl, hr5⟩, hb5⟩; obtain ⟨D2, k2, ev5⟩ := Kd.R_slice hr5; subst ev5; have HR5 := Aside0.mk hr5; have HT5 := Aside0.mk ((HT4.out.go (below_alloc (Below.refl _ _) _)).go hb5); have HB7 : Aside0 (Blk w5 w4.heap.size d1 D1 k1) := ⟨blk_below (blk_new w4 _) hb5⟩; have HR7 := Aside0.mk (Kd.R_below (Kd.R_below HR4.out (below_alloc (Below.refl _ _) _)) hb5); clear hb5 hr5 HBC HR4; clear y10 y11 y12 y20 y21 y22; obtain ⟨y70, y71, y72⟩ := Blk.cells (HB7.out.go (below_alloc (Below.refl _ _) (.cells #[.string d2.src, .string d2.dst, .slice D2 d2.arcs.length k2] 34))); obtain ⟨y20, y21, y22⟩ := Blk.cells (HT5.out.go (below_alloc (Below.refl _ _) (.cells #[.string d2.src, .string d2.dst, .slice D2 d2.arcs.length k2] 34))).h2) | (go_at_call 18; refine (comp_calls D1 C k1 r d1 c _ (Kd.C_below (Kd.R_reads' HR7.out).2.2 (below_alloc (Below.refl _ _) _)) HD1.out (Kd.C_below HC.out (below_step HT5.out.below (below_alloc (Below.refl _ _) _))) HLC.out).mono ?_; rw [HE1.out]; rintro e w6 ⟨v6, rfl, ⟨u6, rfl, hr6⟩, hb6⟩; obtain ⟨D3, k3, ev6⟩ := Kd.R_slice hr6; subst ev6; have HR6 := Aside0.mk hr6; have HT6 := Aside0.mk ((HT5.out.go (below_alloc (Below.refl _ _) _)).go hb6); have HB9 : Aside0 (Blk w6 w5.heap.size d2 D2 k2) := ⟨blk_below (blk_new w5 _) hb6⟩; have HR9 := Aside0.mk (Kd.R_below (Kd.R_below HR5.out (below_alloc (Below.refl _ _) _)) hb6); clear hb6 hr6 HE1 HR5 HR7; clear y70 y71 y72 y20 y21 y22; obtain ⟨y00, y01, y02⟩ := Blk.cells (HT6.out.go (below_alloc (Below.refl _ _) (.cells #[.string d3.src, .string d3.dst, .slice D3 d3.arcs.length k3] 34))).h0; obtain ⟨y90, y91, y92⟩ := Blk.cells (HB9.out.go (below_alloc (Below.refl _ _) (.cells #[.string d3.src, .string d3.dst, .slice D3 d3.arcs.length k3] 34)))) | (go_at_call 18; refine (comp_calls A D2 p k2 a d2 _ (Kd.C_below HA.out (below_step HT6.out.below (below_alloc (Below.refl _ _) _))) HLA.out (Kd.C_below (Kd.R_reads' HR9.out).2.2 (below_alloc (Below.refl _ _) _)) HD2.out).mono ?_; rw [HE2.out]; rintro e w7 ⟨v7, rfl, ⟨u7, rfl, hr7⟩, hb7⟩; obtain ⟨D4, k4, ev7⟩ := Kd.R_slice hr7; subst ev7; have HB11 : Aside0 (Blk w7 w6.heap.size d3 D3 k3) := ⟨blk_below (blk_new w6 _) hb7⟩; have HT7 := Aside0.mk ((HT6.out.go (below_alloc (Below.refl _ _) _)).go hb7); have HQ := Aside0.mk (eqd_calls (W := w7) (A := D3) (B := D4) (cp := k3) (cq := k4) d3 (Kd.C_below (Kd.R_reads' HR6.out).2.2 (below_step (below_alloc (Below.refl _ _) _) hb7)) (Kd.R_reads' hr7).2.2); clear hb7 hr7 HE2; clear y00 y01 y02 y90 y91 y92; obtain ⟨y110, y111, y112⟩ := Blk.cells (HB11.out.go (below_alloc (Below.refl _ _) (.cells #[.string d3.src, .string d3.dst, .slice D4 d3.arcs.length k4] 34))); have z13 := Blk.cells (show Blk (w7.alloc (.cells #[.string d3.src, .string d3.dst, .slice D4 d3.arcs.length k4] 34)) w7.heap.size d3 D4 k4 from blk_new w7 _); obtain ⟨y130, y131, y132⟩ := z13) | (go_at_call 19; refine (HQ.out _ (below_alloc (Below.refl _ _) _)).mono ?_; rintro e w8 ⟨rfl, hb8⟩; have HB8 := Aside0.mk (below_step HT7.out.below (below_step (below_alloc (Below.refl _ _) _) hb8)); clear hb8) | (go_at_call 12; refine (awake_calls _).mono ?_; rintro e wz ⟨rfl, hbz⟩; have HZ := Aside0.mk (below_step HB8.out hbz); clear hbz))
      go_ret
      exact ⟨rfl, HZ.out⟩
    · have n2 : (y2 != 0) = true := by simpa using z2
      subst z1
      clear z2 HFA
      go_enter Try.func5, Try.ntmps5
      go_wp2_with (first | (go_at_call 17; refine (HXa.out _).mono ?_; rintro e w1 ⟨rfl, hb1⟩; have HT1 := Aside0.mk (HT0.out.go hb1); clear hb1 HXa; obtain ⟨y10, y11, y12⟩ := Blk.cells HT1.out.h1) | (go_at_call 17; refine (HXb.out _).mono ?_; rintro e w2 ⟨rfl, hb2⟩; clear y10 y11 y12; have HT2 := Aside0.mk (HT1.out.go hb2); clear hb2 HXb; obtain ⟨y20, y21, y22⟩ := Blk.cells HT2.out.h2) | (go_at_call 17; refine (HXc.out _).mono ?_; rintro e w3 ⟨rfl, hb3⟩; clear y20 y21 y22; have HT3 := Aside0.mk (HT2.out.go hb3); clear hb3 HXc; obtain ⟨y00, y01, y02⟩ := Blk.cells HT3.out.h0; obtain ⟨y10, y11, y12⟩ := Blk.cells HT3.out.h1) | (go_at_call 18; refine (HAB.out _ HT3.out.below).mono ?_; rintro e w4 ⟨v4, rfl, ⟨u4, rfl, hr4⟩, hb4⟩; obtain ⟨D1, k1, ev4⟩ := Kd.R_slice hr4; subst ev4; have HR4 := Aside0.mk hr4; have HT4 := Aside0.mk (HT3.out.go hb4); clear hb4 hr4 HAB; clear y00 y01 y02 y10 y11 y12; obtain ⟨y10, y11, y12⟩ := Blk.cells (HT4.out.go (below_alloc (Below.refl _ _) (.cells #[.string d1.src, .string d1.dst, .slice D1 d1.arcs.length k1] 34))).h1; obtain ⟨y20, y21, y22⟩ := Blk.cells (HT4.out.go (below_alloc (Below.refl _ _) (.cells #[.string d1.src, .string d1.dst, .slice D1 d1.arcs.length k1] 34))).h2) | (go_at_call 18; refine (HBC.out _ (below_step HT4.out.below (below_alloc (Below.refl _ _) _))).mono ?_; rintro e w5 ⟨v5, rfl, ⟨u5, rfl, hr5⟩, hb5⟩; obtain ⟨D2, k2, ev5⟩ := Kd.R_slice hr5; subst ev5; have HR5 := Aside0.mk hr5; have HT5 := Aside0.mk ((HT4.out.go (below_alloc (Below.refl _ _) _)).go hb5); have HB7 : Aside0 (Blk w5 w4.heap.size d1 D1 k1) := ⟨blk_below (blk_new w4 _) hb5⟩; have HR7 := Aside0.mk (Kd.R_below (Kd.R_below HR4.out (below_alloc (Below.refl _ _) _)) hb5); clear hb5 hr5 HBC HR4; clear y10 y11 y12 y20 y21 y22; obtain ⟨y70, y71, y72⟩ := Blk.cells (HB7.out.go (below_alloc (Below.refl _ _) (.cells #[.string d2.src, .string d2.dst, .slice D2 d2.arcs.length k2] 34))); obtain ⟨y20, y21, y22⟩ := Blk.cells (HT5.out.go (below_alloc (Below.refl _ _) (.cells #[.string d2.src, .string d2.dst, .slice D2 d2.arcs.length k2] 34))).h2) | (go_at_call 12; refine (awake_calls _).mono ?_; rintro e wz ⟨rfl, hbz⟩; have HZ := Aside0.mk (below_step (below_step HT5.out.below (below_alloc (Below.refl _ _) _)) hbz); clear hbz))
      go_ret
      exact ⟨rfl, HZ.out⟩
  · have n1 : (y1 != 0) = true := by simpa using z1
    clear z1 HFA
    go_enter Try.func5, Try.ntmps5
    go_wp2_with (first | (go_at_call 17; refine (HXa.out _).mono ?_; rintro e w1 ⟨rfl, hb1⟩; have HT1 := Aside0.mk (HT0.out.go hb1); clear hb1 HXa; obtain ⟨y10, y11, y12⟩ := Blk.cells HT1.out.h1) | (go_at_call 17; refine (HXb.out _).mono ?_; rintro e w2 ⟨rfl, hb2⟩; clear y10 y11 y12; have HT2 := Aside0.mk (HT1.out.go hb2); clear hb2 HXb; obtain ⟨y20, y21, y22⟩ := Blk.cells HT2.out.h2) | (go_at_call 17; refine (HXc.out _).mono ?_; rintro e w3 ⟨rfl, hb3⟩; clear y20 y21 y22; have HT3 := Aside0.mk (HT2.out.go hb3); clear hb3 HXc; obtain ⟨y00, y01, y02⟩ := Blk.cells HT3.out.h0; obtain ⟨y10, y11, y12⟩ := Blk.cells HT3.out.h1) | (go_at_call 18; refine (HAB.out _ HT3.out.below).mono ?_; rintro e w4 ⟨v4, rfl, ⟨u4, rfl, hr4⟩, hb4⟩; obtain ⟨D1, k1, ev4⟩ := Kd.R_slice hr4; subst ev4; have HR4 := Aside0.mk hr4; have HT4 := Aside0.mk (HT3.out.go hb4); clear hb4 hr4 HAB; clear y00 y01 y02 y10 y11 y12; obtain ⟨y10, y11, y12⟩ := Blk.cells (HT4.out.go (below_alloc (Below.refl _ _) (.cells #[.string d1.src, .string d1.dst, .slice D1 d1.arcs.length k1] 34))).h1; obtain ⟨y20, y21, y22⟩ := Blk.cells (HT4.out.go (below_alloc (Below.refl _ _) (.cells #[.string d1.src, .string d1.dst, .slice D1 d1.arcs.length k1] 34))).h2) | (go_at_call 18; refine (HBC.out _ (below_step HT4.out.below (below_alloc (Below.refl _ _) _))).mono ?_; rintro e w5 ⟨v5, rfl, ⟨u5, rfl, hr5⟩, hb5⟩; obtain ⟨D2, k2, ev5⟩ := Kd.R_slice hr5; subst ev5; have HR5 := Aside0.mk hr5; have HT5 := Aside0.mk ((HT4.out.go (below_alloc (Below.refl _ _) _)).go hb5); have HB7 : Aside0 (Blk w5 w4.heap.size d1 D1 k1) := ⟨blk_below (blk_new w4 _) hb5⟩; have HR7 := Aside0.mk (Kd.R_below (Kd.R_below HR4.out (below_alloc (Below.refl _ _) _)) hb5); clear hb5 hr5 HBC HR4; clear y10 y11 y12 y20 y21 y22; obtain ⟨y70, y71, y72⟩ := Blk.cells (HB7.out.go (below_alloc (Below.refl _ _) (.cells #[.string d2.src, .string d2.dst, .slice D2 d2.arcs.length k2] 34))); obtain ⟨y20, y21, y22⟩ := Blk.cells (HT5.out.go (below_alloc (Below.refl _ _) (.cells #[.string d2.src, .string d2.dst, .slice D2 d2.arcs.length k2] 34))).h2) | (go_at_call 12; refine (awake_calls _).mono ?_; rintro e wz ⟨rfl, hbz⟩; have HZ := Aside0.mk (below_step (below_step HT5.out.below (below_alloc (Below.refl _ _) _)) hbz); clear hbz))
    go_ret
    exact ⟨rfl, HZ.out⟩
end Go.Proofs.Ytiepinfcndefhaa.S
