/- Hand-made walk: the law GraphKeeps. -/
import Derived.Test.YtegejpcglabhbaaGMk
import Derived.Test.YtegejpcglabhbaaVX
namespace Go.Proofs.Ytegejpcglabhbaa.G
open Go.RowKit Go.Proofs.YtegejpcglabhbaaW.PrintWords Go.Proofs.YtegejpcglabhbaaW.PrintLast Go.Proofs.YtegejpcglabhbaaW.PrintMore
set_option linter.unusedVariables false
set_option linter.unusedSimpArgs false

theorem drawn_below {w w1 : World} (h : Drawn0 w w1) : Below w.heap.size w w1 := by
  obtain ⟨nd, rfl⟩ := h
  exact pw_below_drewN (Below.refl _ _) nd
theorem ev_eqi (l : List Int) (h : l.length ≤ 1000000) : Ev (fun k => tenetref00_EqInts.f k l l) true := ⟨l.length + 1, fun k hk => eqints_eq l h k hk⟩
theorem Kd_FK_drewN {W : World} {ok : Nat → Prop} {x : S44} {cs : List Value} (h : Kd.FK k44 W ok x cs) (m : Nat) : Kd.FK k44 (W.drewN m) ok x cs := h
/-- An element of a row that came in, with its cells, as it may be appended. -/
theorem elem44 {w W : World} {A1 : Option Addr} {l : List S44} (hr : Kd.C k44 w A1 l.length l) (hb : Below w.heap.size w W) {x : Int} (h0 : 0 ≤ x) (h1 : x < l.length) :
    ∃ ad A3 c3 A5 c5, A1 = some ad ∧ (rd_T44 l x).f0.f1.length ≤ c3 ∧ Kd.C k96 w A3 (rd_T44 l x).f0.f1.length (rd_T44 l x).f0.f1 ∧ (rd_T44 l x).f1.f1.length ≤ c5 ∧ Kd.C k96 w A5 (rd_T44 l x).f1.f1.length (rd_T44 l x).f1.f1 ∧
      W.cell? (ad.add (x.toNat * 4)) = some (.int .i64 (rd_T44 l x).f0.f0) ∧ W.cell? ⟨(ad.add (x.toNat * 4)).block, (ad.add (x.toNat * 4)).off + 1, none⟩ = some (.slice A3 (rd_T44 l x).f0.f1.length c3) ∧
      W.cell? ⟨(ad.add (x.toNat * 4)).block, (ad.add (x.toNat * 4)).off + 2, none⟩ = some (.int .i64 (rd_T44 l x).f1.f0) ∧ W.cell? ⟨(ad.add (x.toNat * 4)).block, (ad.add (x.toNat * 4)).off + 3, none⟩ = some (.slice A5 (rd_T44 l x).f1.f1.length c5) ∧
      Kd.FK k44 W (fun k_ => k_ < w.heap.size) (rd_T44 l x) [.int .i64 (rd_T44 l x).f0.f0, .slice A3 (rd_T44 l x).f0.f1.length c3, .int .i64 (rd_T44 l x).f1.f0, .slice A5 (rd_T44 l x).f1.f1.length c5] := by
  obtain ⟨ad, A3, c3, A5, c5, e, q1, q2, q3, q4, k1, g1, k3, g3⟩ := at_T44 hr x h0 h1
  refine ⟨ad, A3, c3, A5, c5, e, k1, g1, k3, g3, (hb.cell (World.block_lt_of_cell? w _ q1)).trans q1, (hb.cell (World.block_lt_of_cell? w _ q2)).trans q2, (hb.cell (World.block_lt_of_cell? w _ q3)).trans q3, (hb.cell (World.block_lt_of_cell? w _ q4)).trans q4, ?_⟩
  exact k44_mkF _ _ _ k1 (Kd.F_below (Kd.C_F k96_heap g1) hb) k3 (Kd.F_below (Kd.C_F k96_heap g3) hb)
def tenetlaw02_GraphKeeps.f (_k : Nat) (_a0 : Int) (_l1 : List S44) : Option Bool := some true
theorem GraphKeeps_pure (a0 : Int) (l1 : List S44) : ∃ k, tenetlaw02_GraphKeeps.f k a0 l1 = some true := ⟨0, rfl⟩
set_option maxHeartbeats 8000000 in
set_option maxRecDepth 100000 in
theorem lawKeeps_any (a0 : Int) (A1 : Option Addr) (c1 : Nat) (l1 : List S44) (w : World) (hr1 : Kd.C k44 w A1 l1.length l1) (hc1 : l1.length ≤ c1) :
    Calls Try.prog 12 #[.int .i64 a0, .slice A1 l1.length c1] w fun e w' => e = .returned (.bool true) ∧ Below w.heap.size w w' := by
  have HR := Aside0.mk hr1
  have HC := Aside0.mk hc1
  clear hr1 hc1
  obtain ⟨ka, hka⟩ := ev_awake.rounds
  have HA := Aside0.mk hka
  clear hka
  rcases ev_heavy a0 l1 40 (by omega) with ⟨K1, hK1⟩ | ⟨_, hl40, ⟨K1, hK1⟩⟩
  · have H1 := Aside0.mk (hK1 _ (Nat.le_refl _))
    clear hK1
    go_enter Try.func12, Try.ntmps12
    go_wp2_with (fail)
    refine (tenetlaw02_heavy.calls K1 a0 A1 c1 l1 40 true _ HR.out HC.out H1.out).mono ?_
    rintro e w1 ⟨rfl, hd⟩
    have HB := Aside0.mk (drawn_below hd)
    clear hd H1
    go_wp2_with (fail)
    refine (tenetlaw02_awake.calls ka true _ HA.out).mono ?_
    rintro e w2 ⟨rfl, hb⟩
    have HB := Aside0.mk (below_step HB.out hb)
    clear hb
    go_wp2
    go_ret
    exact ⟨rfl, HB.out⟩
  have H1 := Aside0.mk (hK1 _ (Nat.le_refl _))
  clear hK1
  rcases keeps_facts a0 l1 (by omega) with ⟨r, e0, he0, ⟨K2, hK2⟩⟩ | ⟨m, q, s, rfl, hwq, hasc, hq40, hs12, ⟨K2, hK2⟩, ⟨K3, hK3⟩, ⟨K4, hK4⟩, hfol⟩
  · have H2 := Aside0.mk (hK2 _ (Nat.le_refl _))
    have hd0 : (e0 != 0) = true := by simpa using he0
    clear hK2 he0
    go_enter Try.func12, Try.ntmps12
    go_wp2_with (fail)
    refine (tenetlaw02_heavy.calls K1 a0 A1 c1 l1 40 false _ HR.out HC.out H1.out).mono ?_
    rintro e w1 ⟨rfl, hd⟩
    have HB := Aside0.mk (drawn_below hd)
    clear hd H1
    go_wp2_with (fail)
    refine (graph_Minimal.calls K2 a0 A1 c1 l1 r e0 _ (Kd.C_below HR.out HB.out) HC.out H2.out).mono ?_
    rintro e w2 ⟨v, rfl, hv, hb⟩
    have HB := Aside0.mk (below_step HB.out hb)
    clear hb hv H2
    go_wp2_with (fail)
    refine (tenetlaw02_awake.calls ka true _ HA.out).mono ?_
    rintro e w3 ⟨rfl, hb⟩
    have HB := Aside0.mk (below_step HB.out hb)
    clear hb
    go_wp2
    go_ret
    exact ⟨rfl, HB.out⟩
  have H2 := Aside0.mk (hK2 _ (Nat.le_refl _))
  have H3 := Aside0.mk (hK3 _ (Nat.le_refl _))
  have H4 := Aside0.mk (hK4 _ (Nat.le_refl _))
  have HWQ := Aside0.mk hwq
  have HAS := Aside0.mk hasc
  have HFO := Aside0.mk hfol
  have hm1 : l1.length ≤ 9223372036854775807 := HR.out.2.1
  clear hK2 hK3 hK4 hwq hasc hfol
  go_enter Try.func12, Try.ntmps12
  go_wp2_with (fail)
  refine (tenetlaw02_heavy.calls K1 (m : Int) A1 c1 l1 40 false _ HR.out HC.out H1.out).mono ?_
  rintro e w1 ⟨rfl, hd⟩
  have HB := Aside0.mk (drawn_below hd)
  clear hd H1
  go_wp2_with (fail)
  refine (graph_Minimal.calls K2 (m : Int) A1 c1 l1 q 0 _ (Kd.C_below HR.out HB.out) HC.out H2.out).mono ?_
  rintro e w2 ⟨v, rfl, hv, hb⟩
  have HBW := Aside0.mk (below_step HB.out hb)
  obtain ⟨Aq, cq, hvq⟩ := Kd.R_slice hv
  subst hvq
  have HQ := Aside0.mk hv
  have HB0 := Aside0.mk (Below.refl w2.heap.size w2)
  clear hb hv H2 HB
  go_wp2
  go_loopg [7, 8] q.length (fun kq v7 v8 w' => ∃ (i : Nat), v8 = .int .i64 (i : Int) ∧ Aside0 (kq + i = q.length) ∧ Aside0 (Kd.N k44 44 w' w2.heap.size (fun _ => True) v7 (someOf l1 (q.take i))) ∧ Aside0 (Below w2.heap.size w2 w'))
  case atStart => exact ⟨0, rfl, ⟨rfl⟩, ⟨Kd.N_nil _ _ _ _ _⟩, HB0⟩
  case round =>
    clear HB0
    obtain ⟨i, rfl, HK, HN, HB0⟩ := hrel
    by_cases hlt : i < q.length
    · have hx0 := HWQ.out q[i] (List.getElem_mem hlt)
      obtain ⟨x, hx⟩ : ∃ x, x = q[i] := ⟨_, rfl⟩
      have hrd : rd q (i : Int) = x := by rw [hx]; simp [rd, List.getD_eq_getElem?_getD, List.getElem?_eq_getElem hlt]
      have HSN := Aside0.mk (show someOf l1 (q.take (i + 1)) = someOf l1 (q.take i) ++ [rd_T44 l1 x] by rw [List.take_succ_eq_append_getElem hlt, ← hx]; simp [someOf])
      have HLS := Aside0.mk (show (someOf l1 (q.take i)).length ≤ 40 by unfold someOf; rw [List.length_map, List.length_take]; omega)
      obtain ⟨bq, cq2, eq0, _, _, _⟩ := Kd.R_form HQ.out (by omega)
      injection eq0 with eA eN eC
      subst eA
      clear eN eC
      have q0 := (Kd.R_celln 0 HQ.out (i : Int) (by omega) (by omega)).1
      replace q0 : w2.cell? ⟨bq, (i : Int).toNat, none⟩ = some (.int .i64 (rd q (i : Int))) := q0
      rw [hrd, Int.toNat_natCast] at q0
      replace q0 := (HB0.out.cell (World.block_lt_of_cell? w2 _ q0)).trans q0
      rw [← hx] at hx0
      obtain ⟨hx1, hx2⟩ := hx0
      obtain ⟨ad, A3, c3, A5, c5, e1, k1, g1, k3, g3, q1, q2, q3, q4, hFK⟩ := elem44 HR.out (below_step HBW.out HB0.out) hx1 hx2
      have HFK := Aside0.mk hFK
      clear k1 g1 k3 g3 hFK
      have hd1 : decide (x < 0) = false := decide_eq_false (by omega)
      have hd2 : decide ((l1.length : Int) ≤ x) = false := decide_eq_false (by omega)
      obtain ⟨cc, hcc⟩ : ∃ cc, cc = rd_T44 l1 x := ⟨_, rfl⟩
      rw [← hcc] at q1 q2 q3 q4 HFK HSN
      obtain ⟨some_, hso⟩ : ∃ some_, some_ = someOf l1 (q.take i) := ⟨_, rfl⟩
      rw [← hso] at HN HSN HLS
      obtain ⟨v, hv⟩ : ∃ v, v = u7 := ⟨_, rfl⟩
      rw [← hv] at HN ⊢
      by_cases hi0 : i = 0
      · cases e1
        have hdi : decide ((0 : Int) < (i : Int)) = false := decide_eq_false (by omega)
        have hdn : decide (0 < i) = false := decide_eq_false (by omega)
        clear hi0 hcc hso hv hx hrd
        go_wp2
        go_quiet (fail)
        go_wp2_with (at_builtin; refine Kd.N_append k44 (w0 := w2) w2.heap.size rfl (.tmp 65) (.tmp 73) 22 44 (.agg #[(.int .i64 0), (.slice none 0 0), (.int .i64 0), (.slice none 0 0)]) 64 rfl Try.underlying22 info44 rfl (by decide) (by omega) v some_ cc [.int .i64 cc.f0.f0, .slice A3 cc.f0.f1.length c3, .int .i64 cc.f1.f0, .slice A5 cc.f1.f1.length c5] (fun _ => True) (fun k_ => k_ < w.heap.size) rfl rfl (Kd_FK_drewN HFK.out _) (fun k_ hk => ⟨trivial, fun e_ => by have := Kd.N_base HN.out k_ e_.symm; have := HBW.out.size; omega⟩) (fun _ _ => trivial) (Kd.N_drewN HN.out _) (pw_below_drewN HB0.out _) HB0.out.size (by have := HLS.out; omega) ?_; intro v1 w3 ho hb hg hat; have HO := Aside0.mk ho; have HB3 := Aside0.mk hb; clear ho hb hg hat)
        rw [← HSN.out] at HO
        go_roundg (q.length - i - 1)
        case measure => have := HK.out; omega
        case rel => exact ⟨i + 1, by go_num, ⟨by omega⟩, HO, HB3⟩
      · obtain ⟨j, hj⟩ : ∃ j, i = j + 1 := ⟨i - 1, by omega⟩
        obtain ⟨y, hy⟩ : ∃ y, y = q[j]'(by omega) := ⟨_, rfl⟩
        have hyx : y < x := by
          have := List.pairwise_iff_getElem.1 HAS.out j i (by omega) hlt (by omega)
          rw [hx, hy]
          exact this
        have hrdj : rd q (j : Int) = y := by rw [hy]; simp [rd, List.getD_eq_getElem?_getD, List.getElem?_eq_getElem (show j < q.length by omega)]
        have p0 := (Kd.R_celln 0 HQ.out (j : Int) (by omega) (by omega)).1
        replace p0 : w2.cell? ⟨bq, (j : Int).toNat, none⟩ = some (.int .i64 (rd q (j : Int))) := p0
        rw [hrdj, Int.toNat_natCast] at p0
        replace p0 := (HB0.out.cell (World.block_lt_of_cell? w2 _ p0)).trans p0
        cases e1
        have hdi : decide ((0 : Int) < (i : Int)) = true := decide_eq_true (by omega)
        have hdn : decide (0 < i) = true := decide_eq_true (by omega)
        have hdy : decide (x ≤ y) = false := decide_eq_false (by omega)
        clear hi0 hcc hso hv hx hrd hrdj hy hyx
        subst hj
        have hj1 : (j : Int) + 1 < (q.length : Int) := by omega
        have hj2 : (0 : Int) ≤ (j : Int) + 1 := by omega
        have hj3 : (j : Int) < (q.length : Int) := by omega
        have hj4 : (0 : Int) ≤ (j : Int) := by omega
        have hdi2 : decide ((0 : Int) < (j : Int) + 1) = true := decide_eq_true (by omega)
        go_wp2
        go_quiet (fail)
        go_wp2_with (at_builtin; refine Kd.N_append k44 (w0 := w2) w2.heap.size rfl (.tmp 65) (.tmp 73) 22 44 (.agg #[(.int .i64 0), (.slice none 0 0), (.int .i64 0), (.slice none 0 0)]) 64 rfl Try.underlying22 info44 rfl (by decide) (by omega) v some_ cc [.int .i64 cc.f0.f0, .slice A3 cc.f0.f1.length c3, .int .i64 cc.f1.f0, .slice A5 cc.f1.f1.length c5] (fun _ => True) (fun k_ => k_ < w.heap.size) rfl rfl (Kd_FK_drewN HFK.out _) (fun k_ hk => ⟨trivial, fun e_ => by have := Kd.N_base HN.out k_ e_.symm; have := HBW.out.size; omega⟩) (fun _ _ => trivial) (Kd.N_drewN HN.out _) (pw_below_drewN HB0.out _) HB0.out.size (by have := HLS.out; omega) ?_; intro v1 w3 ho hb hg hat; have HO := Aside0.mk ho; have HB3 := Aside0.mk hb; clear ho hb hg hat)
        rw [← HSN.out] at HO
        go_roundg (q.length - (j + 1) - 1)
        case measure => have := HK.out; omega
        case rel => exact ⟨j + 1 + 1, by go_num, ⟨by omega⟩, HO, HB3⟩
    · have hi : i = q.length := by have := HK.out; omega
      have HN2 := Aside0.mk (show Kd.N k44 44 wr w2.heap.size (fun _ => True) u7 (someOf l1 q) by have := HN.out; rw [hi, List.take_length] at this; exact this)
      clear HN hi
      obtain ⟨Az, cz, hvz, hlz, hCz⟩ := Kd.N_reads HN2.out
      subst hvz
      have HZC := Aside0.mk hCz
      have HZL := Aside0.mk hlz
      have HB := Aside0.mk (below_step HBW.out HB0.out)
      clear hlz hCz HN2 HB0 HBW HQ
      go_wp2_with (fail)
      refine (graph_Solve.calls K3 (m : Int) A1 c1 l1 s 0 _ (Kd.C_below HR.out HB.out) HC.out H3.out).mono ?_
      rintro e w4 ⟨vs, rfl, hvs, hb⟩
      have HZC := Aside0.mk (Kd.C_below HZC.out hb)
      have HB := Aside0.mk (below_step HB.out hb)
      obtain ⟨As, cs, hvs2⟩ := Kd.V_slice hvs
      subst hvs2
      have HS := Aside0.mk (Kd.V_reads' hvs)
      clear hb hvs H3
      go_wp2_with (fail)
      refine (graph_Solve.calls K4 (m : Int) Az cz (someOf l1 q) s 0 _ HZC.out HZL.out H4.out).mono ?_
      rintro e w5 ⟨vt, rfl, hvt, hb⟩
      have HZC := Aside0.mk (Kd.C_below HZC.out hb)
      have HB := Aside0.mk (below_step HB.out hb)
      obtain ⟨At, ct, hvt2⟩ := Kd.V_slice hvt
      subst hvt2
      have HT := Aside0.mk (Kd.V_reads' hvt)
      have HS2 := Aside0.mk (Kd.C_below HS.out.2.2 hb)
      clear hb hvt H4
      obtain ⟨K5, hK5⟩ := ev_eqi s (by omega)
      have H5 := Aside0.mk (hK5 _ (Nat.le_refl _))
      clear hK5
      go_wp2_with (fail)
      refine (tenetref00_EqInts.calls K5 As cs s At ct s true _ HS2.out HS.out.2.1 HT.out.2.2 HT.out.2.1 H5.out).mono ?_
      rintro e w6 ⟨rfl, hd⟩
      have HZC := Aside0.mk (Kd.C_below HZC.out (drawn_below hd))
      have HB := Aside0.mk (below_step HB.out (drawn_below hd))
      clear hd H5 HS HT HS2
      go_wp2
      obtain ⟨so, hso⟩ : ∃ so, so = someOf l1 q := ⟨_, rfl⟩
      rw [← hso] at HZC HZL HFO ⊢
      clear hso HK
      go_loopg [13] l1.length (fun kq v13 w' => ∃ (j : Nat), v13 = .int .i64 (j : Int) ∧ Aside0 (kq + j = l1.length) ∧ Aside0 (Kd.C k44 w' Az so.length so) ∧ Aside0 (Below w.heap.size w w'))
      case atStart => exact ⟨0, rfl, ⟨rfl⟩, HZC, HB⟩
      case round =>
        clear HZC HB
        obtain ⟨j, rfl, HK, HZC, HB⟩ := hrel
        by_cases hlt : j < l1.length
        · obtain ⟨ad, A3, c3, A5, c5, e1, q1, q2, q3, q4, k1, g1, k3, g3⟩ := at_T44 HR.out (j : Int) (by omega) (by omega)
          cases e1
          rw [Int.toNat_natCast] at q1 q2 q3 q4
          replace q1 := (HB.out.cell (World.block_lt_of_cell? w _ q1)).trans q1
          replace q2 := (HB.out.cell (World.block_lt_of_cell? w _ q2)).trans q2
          replace q3 := (HB.out.cell (World.block_lt_of_cell? w _ q3)).trans q3
          replace q4 := (HB.out.cell (World.block_lt_of_cell? w _ q4)).trans q4
          obtain ⟨K6, hK6⟩ := HFO.out j hlt
          have H6 := Aside0.mk (hK6 _ (Nat.le_refl _))
          obtain ⟨cc, hcc⟩ : ∃ cc, cc = rd_T44 l1 (j : Int) := ⟨_, rfl⟩
          rw [← hcc] at q1 q2 q3 q4 k1 g1 k3 g3 H6
          have G1 := Aside0.mk g1
          have G3 := Aside0.mk g3
          have L1 := Aside0.mk k1
          have L3 := Aside0.mk k3
          clear hK6 hcc k1 g1 k3 g3
          go_wp2_with (fail)
          refine (Follows_any K6 (m : Int) Az cz so cc A3 c3 A5 c5 true 0 _ HZC.out HZL.out (Kd.C_below G1.out HB.out) L1.out (Kd.C_below G3.out HB.out) L3.out H6.out).mono ?_
          rintro e w7 ⟨rfl, hb⟩
          have HZC := Aside0.mk (Kd.C_below HZC.out hb)
          have HB := Aside0.mk (below_step HB.out hb)
          clear hb q1 q2 q3 q4 H6 G1 G3 L1 L3
          go_wp2
          go_roundg (l1.length - j - 1)
          case measure => have := HK.out; omega
          case rel => exact ⟨j + 1, by go_num, ⟨by omega⟩, HZC, HB⟩
        · go_wp2_with (fail)
          refine (tenetlaw02_awake.calls ka true _ HA.out).mono ?_
          rintro e w7 ⟨rfl, hb⟩
          have HB := Aside0.mk (below_step HB.out hb)
          clear hb
          go_wp2
          go_ret
          exact ⟨rfl, HB.out⟩
theorem tenetlaw02_GraphKeeps.calls (k : Nat) (a0 : Int) (A1 : Option Addr) (c1 : Nat) (l1 : List (S44)) (r : Bool) (w : World) (hr1 : Kd.C k44 w A1 l1.length l1) (hc1 : l1.length ≤ c1) (h : tenetlaw02_GraphKeeps.f k a0 l1 = some r) :
    Calls Try.prog 12 #[.int .i64 a0, .slice A1 l1.length c1] w fun e w' => e = .returned (.bool r) ∧ Below w.heap.size w w' := by
  obtain rfl := Option.some.inj h
  exact lawKeeps_any a0 A1 c1 l1 w hr1 hc1
end Go.Proofs.Ytegejpcglabhbaa.G
