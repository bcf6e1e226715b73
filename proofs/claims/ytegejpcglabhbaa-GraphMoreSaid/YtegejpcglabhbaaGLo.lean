/- Hand-made walk: the law GraphMore. -/
import Derived.Test.YtegejpcglabhbaaGMo
import Derived.Test.YtegejpcglabhbaaGLh
import Derived.Test.YtegejpcglabhbaaVX
import Derived.Test.YtegejpcglabhbaaVY
namespace Go.Proofs.Ytegejpcglabhbaa.G
open Go.RowKit Go.Proofs.YtegejpcglabhbaaW.PrintWords Go.Proofs.YtegejpcglabhbaaW.PrintLast Go.Proofs.YtegejpcglabhbaaW.PrintMore
set_option linter.unusedVariables false
set_option linter.unusedSimpArgs false

theorem C44_cons {w : World} {g : Nat} {c : S44} {A1 A3 : Option Addr} {c1 c3 : Nat} (h : w.heap[g]? = some (.cells #[.int .i64 c.f0.f0, .slice A1 c.f0.f1.length c1, .int .i64 c.f1.f0, .slice A3 c.f1.f1.length c3] 44 (0, 0)))
    (l1 : c.f0.f1.length ≤ c1) (g1 : k96.C w A1 c.f0.f1.length c.f0.f1) (l3 : c.f1.f1.length ≤ c3) (g3 : k96.C w A3 c.f1.f1.length c.f1.f1) : Kd.C k44 w (some ⟨g, 0, none⟩) 1 [c] :=
  ⟨rfl, by omega, fun _ => ⟨⟨g, 0, none⟩, rfl, fun j p hj => ⟨[.int .i64 c.f0.f0, .slice A1 c.f0.f1.length c1, .int .i64 c.f1.f0, .slice A3 c.f1.f1.length c3], by
    obtain ⟨hj1, hj2⟩ := List.getElem?_eq_some_iff.1 hj
    have hj0 : j = 0 := by simpa using hj1
    subst hj0
    have hp : c = p := by simpa using hj2
    subst hp
    refine ⟨rfl, k44_mk w c l1 g1 l3 g3, fun i u hu => ?_⟩
    rw [add_plain]
    refine (blk_cell h _).trans ?_
    simpa using hu⟩⟩⟩
theorem C44_two {w : World} {g : Nat} {C D : S44} {A3 A5 A7 A9 : Option Addr} {c3 c5 c7 c9 : Nat} (h : w.heap[g]? = some (.cells #[.int .i64 C.f0.f0, .slice A3 C.f0.f1.length c3, .int .i64 C.f1.f0, .slice A5 C.f1.f1.length c5, .int .i64 D.f0.f0, .slice A7 D.f0.f1.length c7, .int .i64 D.f1.f0, .slice A9 D.f1.f1.length c9] 44 (0, 0)))
    (l3 : C.f0.f1.length ≤ c3) (g3 : k96.C w A3 C.f0.f1.length C.f0.f1) (l5 : C.f1.f1.length ≤ c5) (g5 : k96.C w A5 C.f1.f1.length C.f1.f1) (l7 : D.f0.f1.length ≤ c7) (g7 : k96.C w A7 D.f0.f1.length D.f0.f1) (l9 : D.f1.f1.length ≤ c9) (g9 : k96.C w A9 D.f1.f1.length D.f1.f1) : Kd.C k44 w (some ⟨g, 0, none⟩) 2 [C, D] := by
  refine ⟨rfl, by omega, fun _ => ⟨⟨g, 0, none⟩, rfl, fun j p hj => ?_⟩⟩
  match j, hj with
  | 0, hj =>
    have hp : C = p := by simpa using hj
    subst hp
    refine ⟨[.int .i64 C.f0.f0, .slice A3 C.f0.f1.length c3, .int .i64 C.f1.f0, .slice A5 C.f1.f1.length c5], rfl, k44_mk w C l3 g3 l5 g5, fun i u hu => ?_⟩
    rw [add_plain]
    refine (blk_cell h _).trans ?_
    match i, hu with
    | 0, hu => exact hu
    | 1, hu => exact hu
    | 2, hu => exact hu
    | 3, hu => exact hu
    | i + 4, hu => simp at hu
  | 1, hj =>
    have hp : D = p := by simpa using hj
    subst hp
    refine ⟨[.int .i64 D.f0.f0, .slice A7 D.f0.f1.length c7, .int .i64 D.f1.f0, .slice A9 D.f1.f1.length c9], rfl, k44_mk w D l7 g7 l9 g9, fun i u hu => ?_⟩
    rw [add_plain]
    refine (blk_cell h _).trans ?_
    match i, hu with
    | 0, hu => exact hu
    | 1, hu => exact hu
    | 2, hu => exact hu
    | 3, hu => exact hu
    | i + 4, hu => simp at hu
  | j + 2, hj => simp at hj
def tenetlaw02_GraphMore.f (_k : Nat) (_a0 : Int) (_l1 : List S44) (_C _D : S44) : Option Bool := some true
theorem GraphMore_pure (a0 : Int) (l1 : List S44) (C D : S44) : ∃ k, tenetlaw02_GraphMore.f k a0 l1 C D = some true := ⟨0, rfl⟩
set_option maxHeartbeats 8000000 in
set_option maxRecDepth 100000 in
theorem lawMore_any (a0 : Int) (A1 : Option Addr) (c1 : Nat) (l1 : List S44) (C D : S44) (A3 : Option Addr) (c3 : Nat) (A5 : Option Addr) (c5 : Nat) (A7 : Option Addr) (c7 : Nat) (A9 : Option Addr) (c9 : Nat) (w : World) (hr1 : Kd.C k44 w A1 l1.length l1) (hc1 : l1.length ≤ c1)
    (hr3 : Kd.C k96 w A3 C.f0.f1.length C.f0.f1) (hc3 : C.f0.f1.length ≤ c3) (hr5 : Kd.C k96 w A5 C.f1.f1.length C.f1.f1) (hc5 : C.f1.f1.length ≤ c5)
    (hr7 : Kd.C k96 w A7 D.f0.f1.length D.f0.f1) (hc7 : D.f0.f1.length ≤ c7) (hr9 : Kd.C k96 w A9 D.f1.f1.length D.f1.f1) (hc9 : D.f1.f1.length ≤ c9) :
    Calls Try.prog 10 #[.int .i64 a0, .slice A1 l1.length c1, .agg #[.int .i64 C.f0.f0, .slice A3 C.f0.f1.length c3, .int .i64 C.f1.f0, .slice A5 C.f1.f1.length c5, .int .i64 D.f0.f0, .slice A7 D.f0.f1.length c7, .int .i64 D.f1.f0, .slice A9 D.f1.f1.length c9]] w fun e w' => e = .returned (.bool true) ∧ Below w.heap.size w w' := by
  have hu44 := Try.underlying44
  have hu51 := Try.underlying51
  have HR := Aside0.mk hr1
  have HC := Aside0.mk hc1
  have G3 := Aside0.mk hr3
  have L3 := Aside0.mk hc3
  have G5 := Aside0.mk hr5
  have L5 := Aside0.mk hc5
  have G7 := Aside0.mk hr7
  have L7 := Aside0.mk hc7
  have G9 := Aside0.mk hr9
  have L9 := Aside0.mk hc9
  have hm1 : l1.length ≤ 9223372036854775807 := hr1.2.1
  clear hr1 hc1 hr3 hc3 hr5 hc5 hr7 hc7 hr9 hc9
  obtain ⟨ka, hka⟩ := ev_awake.rounds
  have HA := Aside0.mk hka
  clear hka
  have BX := Aside0.mk (blk_new w (.cells #[.int .i64 C.f0.f0, .slice A3 C.f0.f1.length c3, .int .i64 C.f1.f0, .slice A5 C.f1.f1.length c5, .int .i64 D.f0.f0, .slice A7 D.f0.f1.length c7, .int .i64 D.f1.f0, .slice A9 D.f1.f1.length c9] 51))
  have HB := Aside0.mk (below_alloc (Below.refl w.heap.size w) (.cells #[.int .i64 C.f0.f0, .slice A3 C.f0.f1.length c3, .int .i64 C.f1.f0, .slice A5 C.f1.f1.length c5, .int .i64 D.f0.f0, .slice A7 D.f0.f1.length c7, .int .i64 D.f1.f0, .slice A9 D.f1.f1.length c9] 51))
  obtain ⟨b1, hb1⟩ : ∃ b, (∃ k, tenetlaw02_heavy.f k a0 l1 60 = some b) ∧ (b = false → l1.length ≤ 60) := by
    rcases ev_heavy a0 l1 60 (by omega) with h | ⟨_, h2, h⟩
    · exact ⟨_, h.rounds, fun e => by cases e⟩
    · exact ⟨_, h.rounds, fun _ => by omega⟩
  obtain ⟨⟨K1, hK1⟩, hl60⟩ := hb1
  obtain ⟨b2, K2, hK2⟩ : ∃ b k, tenetlaw02_heavy.f k 0 [C, D] 60 = some b := by
    rcases ev_heavy 0 [C, D] 60 (by omega) with h | ⟨_, _, h⟩
    · exact ⟨_, h.rounds⟩
    · exact ⟨_, h.rounds⟩
  obtain ⟨K3, hK3⟩ := (ev_valid a0 l1).rounds
  obtain ⟨K4, hK4⟩ := (ev_constraint a0 C).rounds
  obtain ⟨K5, hK5⟩ := (ev_constraint a0 D).rounds
  have H1 := Aside0.mk hK1
  have H2 := Aside0.mk hK2
  have H3 := Aside0.mk hK3
  have H4 := Aside0.mk hK4
  have H5 := Aside0.mk hK5
  have HL60 := Aside0.mk hl60
  have HF := Aside0.mk (fun h1 h2 h3 h4 => more_facts a0 l1 C D h1 h2 h3 h4)
  clear hK1 hK2 hK3 hK4 hK5 hl60
  generalize hbv : validB a0 l1 = b3 at H3
  generalize hbc : fitsB a0 C = b4 at H4
  generalize hbd : fitsB a0 D = b5 at H5
  have HBV := Aside0.mk hbv
  have HBC := Aside0.mk hbc
  have HBD := Aside0.mk hbd
  clear hbv hbc hbd
  go_enter Try.func10, Try.ntmps10
  go_wp2_with (fail)
  refine (tenetlaw02_heavy.calls K1 a0 A1 c1 l1 60 b1 _ (Kd.C_below HR.out HB.out) HC.out H1.out).mono ?_
  rintro e w1 ⟨rfl, hd⟩
  have BX := Aside0.mk (blk_below BX.out (drawnB hd))
  have HB := Aside0.mk (below_step HB.out (drawnB hd))
  clear hd H1
  have z0 := (blk_cell BX.out 0).trans rfl
  have z1 := (blk_cell BX.out 1).trans rfl
  have z2 := (blk_cell BX.out 2).trans rfl
  have z3 := (blk_cell BX.out 3).trans rfl
  have z4 := (blk_cell BX.out 4).trans rfl
  have z5 := (blk_cell BX.out 5).trans rfl
  have z6 := (blk_cell BX.out 6).trans rfl
  have z7 := (blk_cell BX.out 7).trans rfl
  cases b1 with
  | true =>
    clear z0 z1 z2 z3 z4 z5 z6 z7
    go_wp2_with (fail)
    refine (tenetlaw02_awake.calls ka true _ HA.out).mono ?_
    rintro e wz ⟨rfl, hb⟩
    have HB := Aside0.mk (below_step HB.out hb)
    clear hb
    go_wp2
    go_ret
    exact ⟨rfl, HB.out⟩
  | false =>
  have BN := Aside0.mk (blk_new w1 (.cells #[.int .i64 C.f0.f0, .slice A3 C.f0.f1.length c3, .int .i64 C.f1.f0, .slice A5 C.f1.f1.length c5, .int .i64 D.f0.f0, .slice A7 D.f0.f1.length c7, .int .i64 D.f1.f0, .slice A9 D.f1.f1.length c9] 44))
  have BX := Aside0.mk (blk_alloc BX.out (.cells #[.int .i64 C.f0.f0, .slice A3 C.f0.f1.length c3, .int .i64 C.f1.f0, .slice A5 C.f1.f1.length c5, .int .i64 D.f0.f0, .slice A7 D.f0.f1.length c7, .int .i64 D.f1.f0, .slice A9 D.f1.f1.length c9] 44))
  have HB := Aside0.mk (below_alloc HB.out (.cells #[.int .i64 C.f0.f0, .slice A3 C.f0.f1.length c3, .int .i64 C.f1.f0, .slice A5 C.f1.f1.length c5, .int .i64 D.f0.f0, .slice A7 D.f0.f1.length c7, .int .i64 D.f1.f0, .slice A9 D.f1.f1.length c9] 44))
  go_wp2_with (fail)
  refine (tenetlaw02_heavy.calls K2 0 (some ⟨w1.heap.size, 0, none⟩) 2 [C, D] 60 b2 _ (C44_two BN.out L3.out (Kd.C_below G3.out HB.out) L5.out (Kd.C_below G5.out HB.out) L7.out (Kd.C_below G7.out HB.out) L9.out (Kd.C_below G9.out HB.out)) (Nat.le_refl _) H2.out).mono ?_
  rintro e w2 ⟨rfl, hd⟩
  have BX := Aside0.mk (blk_below BX.out (drawnB hd))
  have HB := Aside0.mk (below_step HB.out (drawnB hd))
  clear hd H2 BN z0 z1 z2 z3 z4 z5 z6 z7
  have z0 := (blk_cell BX.out 0).trans rfl
  have z1 := (blk_cell BX.out 1).trans rfl
  have z2 := (blk_cell BX.out 2).trans rfl
  have z3 := (blk_cell BX.out 3).trans rfl
  have z4 := (blk_cell BX.out 4).trans rfl
  have z5 := (blk_cell BX.out 5).trans rfl
  have z6 := (blk_cell BX.out 6).trans rfl
  have z7 := (blk_cell BX.out 7).trans rfl
  cases b2 with
  | true =>
    clear z0 z1 z2 z3 z4 z5 z6 z7
    go_wp2_with (fail)
    refine (tenetlaw02_awake.calls ka true _ HA.out).mono ?_
    rintro e wz ⟨rfl, hb⟩
    have HB := Aside0.mk (below_step HB.out hb)
    clear hb
    go_wp2
    go_ret
    exact ⟨rfl, HB.out⟩
  | false =>
  go_wp2_with (fail)
  refine (tenetref02_Valid.calls K3 a0 A1 c1 l1 b3 _ (Kd.C_below HR.out HB.out) HC.out H3.out).mono ?_
  rintro e w3 ⟨rfl, hb⟩
  have BX := Aside0.mk (blk_below BX.out hb)
  have HB := Aside0.mk (below_step HB.out hb)
  clear hb H3 z0 z1 z2 z3 z4 z5 z6 z7
  have z0 := (blk_cell BX.out 0).trans rfl
  have z1 := (blk_cell BX.out 1).trans rfl
  have z2 := (blk_cell BX.out 2).trans rfl
  have z3 := (blk_cell BX.out 3).trans rfl
  have z4 := (blk_cell BX.out 4).trans rfl
  have z5 := (blk_cell BX.out 5).trans rfl
  have z6 := (blk_cell BX.out 6).trans rfl
  have z7 := (blk_cell BX.out 7).trans rfl
  cases b3 with
  | false =>
    clear z0 z1 z2 z3 z4 z5 z6 z7
    go_wp2_with (fail)
    refine (tenetlaw02_awake.calls ka true _ HA.out).mono ?_
    rintro e wz ⟨rfl, hb⟩
    have HB := Aside0.mk (below_step HB.out hb)
    clear hb
    go_wp2
    go_ret
    exact ⟨rfl, HB.out⟩
  | true =>
  go_wp2_with (fail)
  refine (tenetref02_Constraint.calls K4 a0 C.f0.f0 A3 c3 C.f0.f1 C.f1.f0 A5 c5 C.f1.f1 b4 _ (Kd.C_below G3.out HB.out) L3.out (Kd.C_below G5.out HB.out) L5.out H4.out).mono ?_
  rintro e w4 ⟨rfl, hb⟩
  have BX := Aside0.mk (blk_below BX.out hb)
  have HB := Aside0.mk (below_step HB.out hb)
  clear hb H4 z0 z1 z2 z3 z4 z5 z6 z7
  have z0 := (blk_cell BX.out 0).trans rfl
  have z1 := (blk_cell BX.out 1).trans rfl
  have z2 := (blk_cell BX.out 2).trans rfl
  have z3 := (blk_cell BX.out 3).trans rfl
  have z4 := (blk_cell BX.out 4).trans rfl
  have z5 := (blk_cell BX.out 5).trans rfl
  have z6 := (blk_cell BX.out 6).trans rfl
  have z7 := (blk_cell BX.out 7).trans rfl
  cases b4 with
  | false =>
    clear z0 z1 z2 z3 z4 z5 z6 z7
    go_wp2_with (fail)
    refine (tenetlaw02_awake.calls ka true _ HA.out).mono ?_
    rintro e wz ⟨rfl, hb⟩
    have HB := Aside0.mk (below_step HB.out hb)
    clear hb
    go_wp2
    go_ret
    exact ⟨rfl, HB.out⟩
  | true =>
  go_wp2_with (fail)
  refine (tenetref02_Constraint.calls K5 a0 D.f0.f0 A7 c7 D.f0.f1 D.f1.f0 A9 c9 D.f1.f1 b5 _ (Kd.C_below G7.out HB.out) L7.out (Kd.C_below G9.out HB.out) L9.out H5.out).mono ?_
  rintro e w5 ⟨rfl, hb⟩
  have BX := Aside0.mk (blk_below BX.out hb)
  have HB := Aside0.mk (below_step HB.out hb)
  clear hb H5 z0 z1 z2 z3 z4 z5 z6 z7
  cases b5 with
  | false =>
    go_wp2_with (fail)
    refine (tenetlaw02_awake.calls ka true _ HA.out).mono ?_
    rintro e wz ⟨rfl, hb⟩
    have HB := Aside0.mk (below_step HB.out hb)
    clear hb
    go_wp2
    go_ret
    exact ⟨rfl, HB.out⟩
  | true =>
  have hl60 := HL60.out (by first | rfl | trivial)
  obtain ⟨hfol, ok, ⟨K6, hK6⟩, hok⟩ := HF.out hl60 HBV.out HBC.out HBD.out
  have HFO := Aside0.mk hfol
  have H6 := Aside0.mk (hK6 _ (Nat.le_refl _))
  have HOK := Aside0.mk hok
  have HL := Aside0.mk hl60
  clear hfol hK6 hok hl60 HF HBV HBC HBD HL60
  go_wp2
  go_loopg [7] l1.length (fun kq v7 w' => ∃ (j : Nat), v7 = .int .i64 (j : Int) ∧ Aside0 (kq + j = l1.length) ∧ Aside0 (w'.heap[w.heap.size]? = some (.cells #[.int .i64 C.f0.f0, .slice A3 C.f0.f1.length c3, .int .i64 C.f1.f0, .slice A5 C.f1.f1.length c5, .int .i64 D.f0.f0, .slice A7 D.f0.f1.length c7, .int .i64 D.f1.f0, .slice A9 D.f1.f1.length c9] 51 (0, 0))) ∧ Aside0 (Below w.heap.size w w'))
  case atStart => exact ⟨0, rfl, ⟨rfl⟩, BX, HB⟩
  case round =>
    clear BX HB
    obtain ⟨j, rfl, HK, BX, HB⟩ := hrel
    by_cases hlt : j < l1.length
    · obtain ⟨ad, B3, d3, B5, d5, e1, q1, q2, q3, q4, k1, g1, k3, g3⟩ := at_T44 HR.out (j : Int) (by omega) (by omega)
      cases e1
      rw [Int.toNat_natCast] at q1 q2 q3 q4
      replace q1 := (HB.out.cell (World.block_lt_of_cell? w _ q1)).trans q1
      replace q2 := (HB.out.cell (World.block_lt_of_cell? w _ q2)).trans q2
      replace q3 := (HB.out.cell (World.block_lt_of_cell? w _ q3)).trans q3
      replace q4 := (HB.out.cell (World.block_lt_of_cell? w _ q4)).trans q4
      obtain ⟨K7, hK7⟩ := HFO.out j hlt
      have H7 := Aside0.mk (hK7 _ (Nat.le_refl _))
      obtain ⟨cc, hcc⟩ : ∃ cc, cc = rd_T44 l1 (j : Int) := ⟨_, rfl⟩
      rw [← hcc] at q1 q2 q3 q4 k1 g1 k3 g3 H7
      have P1 := Aside0.mk g1
      have P3 := Aside0.mk g3
      have M1 := Aside0.mk k1
      have M3 := Aside0.mk k3
      clear hK7 hcc k1 g1 k3 g3
      go_wp2_with (fail)
      refine (Follows_any K7 a0 _ c1 l1 cc B3 d3 B5 d5 true 0 _ (Kd.C_below HR.out HB.out) HC.out (Kd.C_below P1.out HB.out) M1.out (Kd.C_below P3.out HB.out) M3.out H7.out).mono ?_
      rintro e w7 ⟨rfl, hb⟩
      have BX := Aside0.mk (blk_below BX.out hb)
      have HB := Aside0.mk (below_step HB.out hb)
      clear hb q1 q2 q3 q4 H7 P1 P3 M1 M3
      go_wp2
      go_roundg (l1.length - j - 1)
      case measure => have := HK.out; omega
      case rel => exact ⟨j + 1, by go_num, ⟨by omega⟩, BX, HB⟩
    · clear HK HFO
      have hdj : decide ((j : Int) < (l1.length : Int)) = false := decide_eq_false (by omega)
      have z0 := (blk_cell BX.out 0).trans rfl
      have z1 := (blk_cell BX.out 1).trans rfl
      have z2 := (blk_cell BX.out 2).trans rfl
      have z3 := (blk_cell BX.out 3).trans rfl
      have z4 := (blk_cell BX.out 4).trans rfl
      have z5 := (blk_cell BX.out 5).trans rfl
      have z6 := (blk_cell BX.out 6).trans rfl
      have z7 := (blk_cell BX.out 7).trans rfl
      go_wp2_with (fail)
      refine (Follows_any K6 a0 A1 c1 l1 C A3 c3 A5 c5 ok 0 _ (Kd.C_below HR.out HB.out) HC.out (Kd.C_below G3.out HB.out) L3.out (Kd.C_below G5.out HB.out) L5.out H6.out).mono ?_
      rintro e w7 ⟨rfl, hb⟩
      have BX := Aside0.mk (blk_below BX.out hb)
      have HB := Aside0.mk (below_step HB.out hb)
      clear hb H6 z0 z1 z2 z3 z4 z5 z6 z7
      cases ok with
      | false =>
        go_wp2_with (fail)
        refine (tenetlaw02_awake.calls ka true _ HA.out).mono ?_
        rintro e wz ⟨rfl, hb⟩
        have HB := Aside0.mk (below_step HB.out hb)
        clear hb
        go_wp2
        go_ret
        exact ⟨rfl, HB.out⟩
      | true =>
      obtain ⟨⟨s, f, hsl, ⟨K7, hK7⟩, hhold⟩, ⟨K9, hK9⟩⟩ := HOK.out rfl
      have H7 := Aside0.mk (hK7 _ (Nat.le_refl _))
      have H9 := Aside0.mk (hK9 _ (Nat.le_refl _))
      have HH := Aside0.mk hhold
      have HSL := Aside0.mk hsl
      clear hK7 hK9 hhold hsl HOK
      go_wp2_with (fail)
      refine (graph_Solve.calls K7 a0 A1 c1 l1 s f _ (Kd.C_below HR.out HB.out) HC.out H7.out).mono ?_
      rintro e w8 ⟨vs, rfl, hvs, hb⟩
      have BX := Aside0.mk (blk_below BX.out hb)
      have HB := Aside0.mk (below_step HB.out hb)
      obtain ⟨As, cs, hvs2⟩ := Kd.V_slice hvs
      subst hvs2
      have HS := Aside0.mk (Kd.V_reads' hvs)
      clear hb hvs H7
      go_upto_if 93 with fail
      go_cut [14, 15] from 94 to 109 (fun v14 v15 w' => Aside0 (w'.heap[w.heap.size]? = some (.cells #[.int .i64 C.f0.f0, .slice A3 C.f0.f1.length c3, .int .i64 C.f1.f0, .slice A5 C.f1.f1.length c5, .int .i64 D.f0.f0, .slice A7 D.f0.f1.length c7, .int .i64 D.f1.f0, .slice A9 D.f1.f1.length c9] 51 (0, 0))) ∧ Aside0 (Below w.heap.size w w'))
      case first =>
        by_cases hf : f = 0
        · subst hf
          obtain ⟨K8, hK8⟩ := HH.out rfl
          have H8 := Aside0.mk (hK8 _ (Nat.le_refl _))
          clear hK8
          have z0 := (blk_cell BX.out 0).trans rfl
          have z1 := (blk_cell BX.out 1).trans rfl
          have z2 := (blk_cell BX.out 2).trans rfl
          have z3 := (blk_cell BX.out 3).trans rfl
          have z4 := (blk_cell BX.out 4).trans rfl
          have z5 := (blk_cell BX.out 5).trans rfl
          have z6 := (blk_cell BX.out 6).trans rfl
          have z7 := (blk_cell BX.out 7).trans rfl
          have BN := Aside0.mk (blk_new w8 (.cells #[.int .i64 C.f0.f0, .slice A3 C.f0.f1.length c3, .int .i64 C.f1.f0, .slice A5 C.f1.f1.length c5] 44))
          have BX := Aside0.mk (blk_alloc BX.out (.cells #[.int .i64 C.f0.f0, .slice A3 C.f0.f1.length c3, .int .i64 C.f1.f0, .slice A5 C.f1.f1.length c5] 44))
          have HB8 := Aside0.mk (below_alloc (Below.refl w8.heap.size w8) (.cells #[.int .i64 C.f0.f0, .slice A3 C.f0.f1.length c3, .int .i64 C.f1.f0, .slice A5 C.f1.f1.length c5] 44))
          have HB := Aside0.mk (below_step HB.out HB8.out)
          go_wp2_with (fail)
          refine (graph_Holds.calls K8 a0 (some ⟨w8.heap.size, 0, none⟩) 1 [C] As cs s (-1) 0 _ (C44_cons BN.out L3.out (Kd.C_below G3.out HB.out) L5.out (Kd.C_below G5.out HB.out)) (Nat.le_refl _) (Kd.C_below HS.out.2.2 HB8.out) HS.out.2.1 H8.out).mono ?_
          rintro e w9 ⟨rfl, hb⟩
          have BX := Aside0.mk (blk_below BX.out hb)
          have HB := Aside0.mk (below_step HB.out hb)
          clear hb H8 z0 z1 z2 z3 z4 z5 z6 z7 BN HB8
          go_wp2
          go_meet
          exact ⟨BX, HB⟩
        · have hdf : (f == 0) = false := beq_eq_false_iff_ne.2 hf
          go_wp2
          go_meet
          exact ⟨BX, HB⟩
      case rest =>
      clear BX HB HS HH HSL
      obtain ⟨BX, HB⟩ := hcut
      have HBW := HB
      have hz9 := HBW.out.size
      have HL1 := HL.out
      have HB0 := Aside0.mk (below_alloc (Below.refl wc.heap.size wc) (.cells #[] 44))
      have HN := Aside0.mk (empty44 wc wc.heap.size (Nat.le_refl _))
      have HF1 := Aside0.mk (Kd.F_below (Kd.F_below (Kd.C_F k44_heap HR.out) HB.out) HB0.out)
      go_wp2_with (first | (at_builtin; refine Kd.N_append_rows k44 (w0 := wc) wc.heap.size rfl (.tmp 109) (.tmp 110) 22 44 (.agg #[(.int .i64 0), (.slice none 0 0), (.int .i64 0), (.slice none 0 0)]) 64 rfl Try.underlying22 info44 rfl (by decide) (by omega) (.slice (some ⟨wc.heap.size, 0, none⟩) 0 0) ([] : List S44) l1 A1 l1.length c1 (fun _ => True) (fun k_ => k_ < w.heap.size) rfl rfl HN.out HF1.out (fun k_ hk => ⟨trivial, fun e_ => by have := Kd.N_base HN.out k_ e_.symm; omega⟩) (fun _ _ => trivial) HB0.out HB0.out.size (by simp; omega) ?_; intro v1 w4 ho hb hg hat; rw [List.nil_append] at ho; have HN4 := Aside0.mk ho; have HB4 := Aside0.mk hb; clear ho hb hg hat; have HBX := Aside0.mk BX.out; clear BX; have BX := Aside0.mk (blk_below HBX.out HB4.out); clear HF1 HN HB0 HB; have HB := Aside0.mk (below_step HBW.out HB4.out); have HFKC : Aside0 (Kd.FK k44 w4 (fun k_ => k_ < w.heap.size) D [.int .i64 D.f0.f0, .slice A7 D.f0.f1.length c7, .int .i64 D.f1.f0, .slice A9 D.f1.f1.length c9]) := ⟨k44_mkF _ _ D L7.out (Kd.F_below (Kd.C_F k96_heap G7.out) HB.out) L9.out (Kd.F_below (Kd.C_F k96_heap G9.out) HB.out)⟩; have z0 := (blk_cell BX.out 0).trans rfl; have z1 := (blk_cell BX.out 1).trans rfl; have z2 := (blk_cell BX.out 2).trans rfl; have z3 := (blk_cell BX.out 3).trans rfl; have z4 := (blk_cell BX.out 4).trans rfl; have z5 := (blk_cell BX.out 5).trans rfl; have z6 := (blk_cell BX.out 6).trans rfl; have z7 := (blk_cell BX.out 7).trans rfl) | (at_builtin; refine Kd.N_append k44 (w0 := wc) wc.heap.size rfl (.tmp 112) (.tmp 115) 22 44 (.agg #[(.int .i64 0), (.slice none 0 0), (.int .i64 0), (.slice none 0 0)]) 64 rfl Try.underlying22 info44 rfl (by decide) (by omega) v1 l1 D [.int .i64 D.f0.f0, .slice A7 D.f0.f1.length c7, .int .i64 D.f1.f0, .slice A9 D.f1.f1.length c9] (fun _ => True) (fun k_ => k_ < w.heap.size) rfl rfl HFKC.out (fun k_ hk => ⟨trivial, fun e_ => by have := Kd.N_base HN4.out k_ e_.symm; omega⟩) (fun _ _ => trivial) HN4.out HB4.out HB4.out.size (by omega) ?_; intro v6 w6 ho hb hg hat; have HN6 := Aside0.mk ho; have HB6 := Aside0.mk hb; clear ho hb hg hat z0 z1 z2 z3 z4 z5 z6 z7 BX HB; have BX := Aside0.mk (blk_below HBX.out HB6.out); have z0 := (blk_cell BX.out 0).trans rfl; have z1 := (blk_cell BX.out 1).trans rfl; have z2 := (blk_cell BX.out 2).trans rfl; have z3 := (blk_cell BX.out 3).trans rfl; have z4 := (blk_cell BX.out 4).trans rfl; have z5 := (blk_cell BX.out 5).trans rfl; have z6 := (blk_cell BX.out 6).trans rfl; have z7 := (blk_cell BX.out 7).trans rfl))
      clear HFKC HN4 HB4
      obtain ⟨Az, cz, hvz, hlz, hCz⟩ := Kd.N_reads HN6.out
      subst hvz
      have HQC := Aside0.mk hCz
      have HZL := Aside0.mk hlz
      have HB := Aside0.mk (below_step HBW.out HB6.out)
      clear hlz hCz HN6 HB6 HBW HBX
      obtain ⟨so, hso⟩ : ∃ so, so = l1 ++ [D] := ⟨_, rfl⟩
      rw [← hso] at HQC HZL H9 ⊢
      clear hso
      go_wp2_with (fail)
      refine (Follows_any K9 a0 Az cz so C A3 c3 A5 c5 true 0 _ HQC.out HZL.out (Kd.C_below G3.out HB.out) L3.out (Kd.C_below G5.out HB.out) L5.out H9.out).mono ?_
      rintro e w7 ⟨rfl, hb⟩
      have HB := Aside0.mk (below_step HB.out hb)
      clear hb H9 z0 z1 z2 z3 z4 z5 z6 z7
      go_wp2_with (fail)
      refine (tenetlaw02_awake.calls ka true _ HA.out).mono ?_
      rintro e wz ⟨rfl, hb⟩
      have HB := Aside0.mk (below_step HB.out hb)
      clear hb
      go_wp2
      go_ret
      exact ⟨rfl, HB.out⟩
theorem tenetlaw02_GraphMore.calls (k : Nat) (a0 : Int) (A1 : Option Addr) (c1 : Nat) (l1 : List (S44)) (C D : S44) (A3 : Option Addr) (c3 : Nat) (A5 : Option Addr) (c5 : Nat) (A7 : Option Addr) (c7 : Nat) (A9 : Option Addr) (c9 : Nat) (r : Bool) (w : World) (hr1 : Kd.C k44 w A1 l1.length l1) (hc1 : l1.length ≤ c1)
    (hr3 : Kd.C k96 w A3 C.f0.f1.length C.f0.f1) (hc3 : C.f0.f1.length ≤ c3) (hr5 : Kd.C k96 w A5 C.f1.f1.length C.f1.f1) (hc5 : C.f1.f1.length ≤ c5)
    (hr7 : Kd.C k96 w A7 D.f0.f1.length D.f0.f1) (hc7 : D.f0.f1.length ≤ c7) (hr9 : Kd.C k96 w A9 D.f1.f1.length D.f1.f1) (hc9 : D.f1.f1.length ≤ c9) (h : tenetlaw02_GraphMore.f k a0 l1 C D = some r) :
    Calls Try.prog 10 #[.int .i64 a0, .slice A1 l1.length c1, .agg #[.int .i64 C.f0.f0, .slice A3 C.f0.f1.length c3, .int .i64 C.f1.f0, .slice A5 C.f1.f1.length c5, .int .i64 D.f0.f0, .slice A7 D.f0.f1.length c7, .int .i64 D.f1.f0, .slice A9 D.f1.f1.length c9]] w fun e w' => e = .returned (.bool r) ∧ Below w.heap.size w w' := by
  obtain rfl := Option.some.inj h
  exact lawMore_any a0 A1 c1 l1 C D A3 c3 A5 c5 A7 c7 A9 c9 w hr1 hc1 hr3 hc3 hr5 hc5 hr7 hc7 hr9 hc9
end Go.Proofs.Ytegejpcglabhbaa.G
