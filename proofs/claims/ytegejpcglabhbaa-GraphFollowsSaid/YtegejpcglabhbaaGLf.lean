/- Hand-made walk: the law GraphFollows. -/
import Derived.Test.YtegejpcglabhbaaGNc
namespace Go.Proofs.Ytegejpcglabhbaa.G
open Go.RowKit Go.Proofs.YtegejpcglabhbaaW.PrintWords Go.Proofs.YtegejpcglabhbaaW.PrintLast Go.Proofs.YtegejpcglabhbaaW.PrintMore
set_option linter.unusedVariables false
set_option linter.unusedSimpArgs false

theorem C44_cons {w : World} {g : Nat} {c : S44} {A1 A3 : Option Addr} {c1 c3 : Nat} (h : w.heap[g]? = some (.cells #[.int .i64 c.f0.f0, .slice A1 c.f0.f1.length c1, .int .i64 c.f1.f0, .slice A3 c.f1.f1.length c3] 44 (0, 0)))
    (l1 : c.f0.f1.length ≤ c1) (g1 : k96.C w A1 c.f0.f1.length c.f0.f1) (l3 : c.f1.f1.length ≤ c3) (g3 : k96.C w A3 c.f1.f1.length c.f1.f1) : Kd.C k44 w (some ⟨g, 0, none⟩) 1 [c] :=
  ⟨rfl, by omega, fun _ => ⟨⟨g, 0, none⟩, rfl, fun j p hj => ⟨[.int .i64 c.f0.f0, .slice A1 c.f0.f1.length c1, .int .i64 c.f1.f0, .slice A3 c.f1.f1.length c3], by
    obtain ⟨hj1, hj2⟩ := List.getElem?_eq_some_iff.1 hj
    have hj0 : j = 0 := by simpa using hj1
    subst hj0
    have hp : c = p := by simpa using hj2
    subst hp
    refine ⟨rfl, k44_mk w c l1 g1 l3 g3, fun i u hu => ?_⟩
    rw [add_plain]
    refine (blk_cell h _).trans ?_
    simpa using hu⟩⟩⟩
theorem drawn_below {w w1 : World} (h : Drawn0 w w1) : Below w.heap.size w w1 := by
  obtain ⟨nd, rfl⟩ := h
  exact pw_below_drewN (Below.refl _ _) nd
def tenetlaw02_GraphFollows.f (_k : Nat) (_a0 : Int) (_l1 : List S44) (_a2_0 : Int) (_l2_1 : List S96) (_a2_2 : Int) (_l2_3 : List S96) : Option Bool := some true
theorem GraphFollows_pure (a0 : Int) (l1 : List S44) (a2_0 : Int) (l2_1 : List S96) (a2_2 : Int) (l2_3 : List S96) : ∃ k, tenetlaw02_GraphFollows.f k a0 l1 a2_0 l2_1 a2_2 l2_3 = some true := ⟨0, rfl⟩
set_option maxHeartbeats 4000000 in
set_option maxRecDepth 100000 in
theorem lawFollows_any (a0 : Int) (A1 : Option Addr) (c1 : Nat) (l1 : List S44) (c : S44) (A3 : Option Addr) (c3 : Nat) (A5 : Option Addr) (c5 : Nat) (w : World) (hr1 : Kd.C k44 w A1 l1.length l1) (hc1 : l1.length ≤ c1)
    (hr3 : Kd.C k96 w A3 c.f0.f1.length c.f0.f1) (hc3 : c.f0.f1.length ≤ c3) (hr5 : Kd.C k96 w A5 c.f1.f1.length c.f1.f1) (hc5 : c.f1.f1.length ≤ c5) :
    Calls Try.prog 8 #[.int .i64 a0, .slice A1 l1.length c1, .agg #[.int .i64 c.f0.f0, .slice A3 c.f0.f1.length c3, .int .i64 c.f1.f0, .slice A5 c.f1.f1.length c5]] w fun e w' => e = .returned (.bool true) ∧ Below w.heap.size w w' := by
  have hu44 := Try.underlying44
  have HR := Aside0.mk hr1
  have HC := Aside0.mk hc1
  have G1 := Aside0.mk hr3
  have L1 := Aside0.mk hc3
  have G3 := Aside0.mk hr5
  have L3 := Aside0.mk hc5
  clear hr1 hc1 hr3 hc3 hr5 hc5
  obtain ⟨ka, hka⟩ := ev_awake.rounds
  have HA := Aside0.mk hka
  have BX := Aside0.mk (blk_new w (.cells #[.int .i64 c.f0.f0, .slice A3 c.f0.f1.length c3, .int .i64 c.f1.f0, .slice A5 c.f1.f1.length c5] 44))
  have HB := Aside0.mk (below_alloc (Below.refl w.heap.size w) (.cells #[.int .i64 c.f0.f0, .slice A3 c.f0.f1.length c3, .int .i64 c.f1.f0, .slice A5 c.f1.f1.length c5] 44))
  clear hka
  obtain ⟨b1, k1, hk1⟩ : ∃ b k, tenetlaw02_heavy.f k a0 l1 60 = some b := by
    rcases ev_heavy a0 l1 60 (by omega) with h | ⟨_, _, h⟩
    · exact ⟨_, h.rounds⟩
    · exact ⟨_, h.rounds⟩
  obtain ⟨b2, k2, hk2⟩ : ∃ b k, tenetlaw02_heavy.f k 0 [c] 60 = some b := by
    rcases ev_heavy 0 [c] 60 (by omega) with h | ⟨_, _, h⟩
    · exact ⟨_, h.rounds⟩
    · exact ⟨_, h.rounds⟩
  obtain ⟨⟨r1, r2⟩, ⟨K1, hK1⟩, ⟨K2, hK2⟩⟩ := Follows_both a0 l1 c
  have H1 := Aside0.mk hk1
  have H2 := Aside0.mk hk2
  have H3 := Aside0.mk (hK1 _ (Nat.le_refl _))
  have H4 := Aside0.mk (hK2 _ (Nat.le_refl _))
  clear hk1 hk2 hK1 hK2
  go_enter Try.func8, Try.ntmps8
  go_wp2_with (fail)
  refine (tenetlaw02_heavy.calls k1 a0 A1 c1 l1 60 b1 _ (Kd.C_below HR.out HB.out) HC.out H1.out).mono ?_
  rintro e w1 ⟨rfl, hd⟩
  have BX := Aside0.mk (blk_below BX.out (drawn_below hd))
  have HB := Aside0.mk (below_step HB.out (drawn_below hd))
  clear hd H1
  have z0 := (blk_cell BX.out 0).trans rfl
  have z1 := (blk_cell BX.out 1).trans rfl
  have z2 := (blk_cell BX.out 2).trans rfl
  have z3 := (blk_cell BX.out 3).trans rfl
  cases b1 with
  | true =>
    clear z0 z1 z2 z3
    go_wp2_with (fail)
    refine (tenetlaw02_awake.calls ka true _ HA.out).mono ?_
    rintro e w2 ⟨rfl, hb⟩
    have HB := Aside0.mk (below_step HB.out hb)
    clear hb
    go_wp2
    go_ret
    exact ⟨rfl, HB.out⟩
  | false =>
    have BN := Aside0.mk (blk_new w1 (.cells #[.int .i64 c.f0.f0, .slice A3 c.f0.f1.length c3, .int .i64 c.f1.f0, .slice A5 c.f1.f1.length c5] 44))
    have BX := Aside0.mk (blk_alloc BX.out (.cells #[.int .i64 c.f0.f0, .slice A3 c.f0.f1.length c3, .int .i64 c.f1.f0, .slice A5 c.f1.f1.length c5] 44))
    have HB := Aside0.mk (below_alloc HB.out (.cells #[.int .i64 c.f0.f0, .slice A3 c.f0.f1.length c3, .int .i64 c.f1.f0, .slice A5 c.f1.f1.length c5] 44))
    go_wp2_with (fail)
    refine (tenetlaw02_heavy.calls k2 0 (some ⟨w1.heap.size, 0, none⟩) 1 [c] 60 b2 _ (C44_cons BN.out L1.out (Kd.C_below G1.out HB.out) L3.out (Kd.C_below G3.out HB.out)) (Nat.le_refl _) H2.out).mono ?_
    rintro e w2 ⟨rfl, hd⟩
    have BX := Aside0.mk (blk_below BX.out (drawn_below hd))
    have HB := Aside0.mk (below_step HB.out (drawn_below hd))
    clear hd H2 BN z0 z1 z2 z3
    have z0 := (blk_cell BX.out 0).trans rfl
    have z1 := (blk_cell BX.out 1).trans rfl
    have z2 := (blk_cell BX.out 2).trans rfl
    have z3 := (blk_cell BX.out 3).trans rfl
    cases b2 with
    | true =>
      clear z0 z1 z2 z3
      go_wp2_with (fail)
      refine (tenetlaw02_awake.calls ka true _ HA.out).mono ?_
      rintro e w3 ⟨rfl, hb⟩
      have HB := Aside0.mk (below_step HB.out hb)
      clear hb
      go_wp2
      go_ret
      exact ⟨rfl, HB.out⟩
    | false =>
      go_wp2_with (fail)
      refine (Follows_any K1 a0 A1 c1 l1 c A3 c3 A5 c5 r1 r2 _ (Kd.C_below HR.out HB.out) HC.out (Kd.C_below G1.out HB.out) L1.out (Kd.C_below G3.out HB.out) L3.out H3.out).mono ?_
      rintro e w3 ⟨rfl, hb⟩
      have BX := Aside0.mk (blk_below BX.out hb)
      have HB := Aside0.mk (below_step HB.out hb)
      clear hb H3 z0 z1 z2 z3
      have z0 := (blk_cell BX.out 0).trans rfl
      have z1 := (blk_cell BX.out 1).trans rfl
      have z2 := (blk_cell BX.out 2).trans rfl
      have z3 := (blk_cell BX.out 3).trans rfl
      go_wp2_with (fail)
      refine (tenetref02_Follows.calls K2 a0 A1 c1 l1 c.f0.f0 A3 c3 c.f0.f1 c.f1.f0 A5 c5 c.f1.f1 r1 r2 _ (Kd.C_below HR.out HB.out) HC.out (Kd.C_below G1.out HB.out) L1.out (Kd.C_below G3.out HB.out) L3.out H4.out).mono ?_
      rintro e w4 ⟨rfl, hb⟩
      have HB := Aside0.mk (below_step HB.out hb)
      clear hb H4 z0 z1 z2 z3
      go_wp2_with (fail)
      refine (tenetlaw02_awake.calls ka true _ HA.out).mono ?_
      rintro e w5 ⟨rfl, hb⟩
      have HB := Aside0.mk (below_step HB.out hb)
      clear hb
      go_wp2
      go_ret
      exact ⟨rfl, HB.out⟩
theorem tenetlaw02_GraphFollows.calls (k : Nat) (a0 : Int) (A1 : Option Addr) (c1 : Nat) (l1 : List (S44)) (a2_0 : Int) (A2_1 : Option Addr) (c2_1 : Nat) (l2_1 : List (S96)) (a2_2 : Int) (A2_3 : Option Addr) (c2_3 : Nat) (l2_3 : List (S96)) (r : Bool) (w : World) (hr1 : Kd.C k44 w A1 l1.length l1) (hc1 : l1.length ≤ c1) (hr2_1 : Kd.C k96 w A2_1 l2_1.length l2_1) (hc2_1 : l2_1.length ≤ c2_1) (hr2_3 : Kd.C k96 w A2_3 l2_3.length l2_3) (hc2_3 : l2_3.length ≤ c2_3) (h : tenetlaw02_GraphFollows.f k a0 l1 a2_0 l2_1 a2_2 l2_3 = some r) :
    Calls Try.prog 8 #[.int .i64 a0, .slice A1 l1.length c1, .agg #[.int .i64 a2_0, .slice A2_1 l2_1.length c2_1, .int .i64 a2_2, .slice A2_3 l2_3.length c2_3]] w fun e w' => e = .returned (.bool r) ∧ Below w.heap.size w w' := by
  obtain rfl := Option.some.inj h
  exact lawFollows_any a0 A1 c1 l1 ⟨⟨a2_0, l2_1⟩, ⟨a2_2, l2_3⟩⟩ A2_1 c2_1 A2_3 c2_3 w hr1 hc1 hr2_1 hc2_1 hr2_3 hc2_3
end Go.Proofs.Ytegejpcglabhbaa.G
