/- Hand-made walk: the law GraphJoins. -/
import Derived.Test.YtegejpcglabhbaaGMj
import Derived.Test.YtegejpcglabhbaaGLh
namespace Go.Proofs.Ytegejpcglabhbaa.G
open Go.RowKit Go.Proofs.YtegejpcglabhbaaW.PrintWords Go.Proofs.YtegejpcglabhbaaW.PrintLast Go.Proofs.YtegejpcglabhbaaW.PrintMore
set_option linter.unusedVariables false
set_option linter.unusedSimpArgs false

def tenetlaw02_GraphJoins.f (_k : Nat) (_a0 : Int) (_l1 _l2 : List S44) : Option Bool := some true
theorem GraphJoins_pure (a0 : Int) (l1 l2 : List S44) : ∃ k, tenetlaw02_GraphJoins.f k a0 l1 l2 = some true := ⟨0, rfl⟩
theorem heavy_cases (n : Int) (l : List S44) : ∃ b, (∃ k, tenetlaw02_heavy.f k n l 120 = some b) ∧ (b = false → l.length ≤ 120) := by
  rcases ev_heavy n l 120 (by omega) with h | ⟨_, h2, h⟩
  · exact ⟨_, h.rounds, fun e => by cases e⟩
  · exact ⟨_, h.rounds, fun _ => by omega⟩
set_option maxHeartbeats 8000000 in
set_option maxRecDepth 100000 in
theorem lawJoins_any (a0 : Int) (A1 : Option Addr) (c1 : Nat) (l1 : List S44) (A2 : Option Addr) (c2 : Nat) (l2 : List S44) (w : World) (hr1 : Kd.C k44 w A1 l1.length l1) (hc1 : l1.length ≤ c1) (hr2 : Kd.C k44 w A2 l2.length l2) (hc2 : l2.length ≤ c2) :
    Calls Try.prog 16 #[.int .i64 a0, .slice A1 l1.length c1, .slice A2 l2.length c2] w fun e w' => e = .returned (.bool true) ∧ Below w.heap.size w w' := by
  have HR := Aside0.mk hr1
  have HC := Aside0.mk hc1
  have HR2 := Aside0.mk hr2
  have HC2 := Aside0.mk hc2
  have hm1 : l1.length ≤ 9223372036854775807 := hr1.2.1
  have hm2 : l2.length ≤ 9223372036854775807 := hr2.2.1
  clear hr1 hc1 hr2 hc2
  obtain ⟨ka, hka⟩ := ev_awake.rounds
  have HA := Aside0.mk hka
  clear hka
  obtain ⟨b1, ⟨K1, hK1⟩, hl1⟩ := heavy_cases a0 l1
  obtain ⟨b2, ⟨K2, hK2⟩, hl2⟩ := heavy_cases a0 l2
  obtain ⟨K3, hK3⟩ := (ev_valid a0 l1).rounds
  obtain ⟨K4, hK4⟩ := (ev_valid a0 l2).rounds
  have H1 := Aside0.mk hK1
  have H2 := Aside0.mk hK2
  have H3 := Aside0.mk hK3
  have H4 := Aside0.mk hK4
  have HL1 := Aside0.mk hl1
  have HL2 := Aside0.mk hl2
  have HF := Aside0.mk (fun h1 h2 h3 h4 => joins_facts a0 l1 l2 h1 h2 h3 h4)
  clear hK1 hK2 hK3 hK4 hl1 hl2
  generalize hbv : validB a0 l1 = b3 at H3
  generalize hbw : validB a0 l2 = b4 at H4
  have HBV := Aside0.mk hbv
  have HBW := Aside0.mk hbw
  clear hbv hbw
  go_enter Try.func16, Try.ntmps16
  go_wp2_with (fail)
  refine (tenetlaw02_heavy.calls K1 a0 A1 c1 l1 120 b1 _ HR.out HC.out H1.out).mono ?_
  rintro e w1 ⟨rfl, hd⟩
  have HB := Aside0.mk (drawnB hd)
  clear hd H1
  cases b1 with
  | true =>
    go_wp2_with (fail)
    refine (tenetlaw02_awake.calls ka true _ HA.out).mono ?_
    rintro e wz ⟨rfl, hb⟩
    have HB := Aside0.mk (below_step HB.out hb)
    clear hb
    go_wp2
    go_ret
    exact ⟨rfl, HB.out⟩
  | false =>
  go_wp2_with (fail)
  refine (tenetlaw02_heavy.calls K2 a0 A2 c2 l2 120 b2 _ (Kd.C_below HR2.out HB.out) HC2.out H2.out).mono ?_
  rintro e w2 ⟨rfl, hd⟩
  have HB := Aside0.mk (below_step HB.out (drawnB hd))
  clear hd H2
  cases b2 with
  | true =>
    go_wp2_with (fail)
    refine (tenetlaw02_awake.calls ka true _ HA.out).mono ?_
    rintro e wz ⟨rfl, hb⟩
    have HB := Aside0.mk (below_step HB.out hb)
    clear hb
    go_wp2
    go_ret
    exact ⟨rfl, HB.out⟩
  | false =>
  go_wp2_with (fail)
  refine (tenetref02_Valid.calls K3 a0 A1 c1 l1 b3 _ (Kd.C_below HR.out HB.out) HC.out H3.out).mono ?_
  rintro e w3 ⟨rfl, hb⟩
  have HB := Aside0.mk (below_step HB.out hb)
  clear hb H3
  cases b3 with
  | false =>
    go_wp2_with (fail)
    refine (tenetlaw02_awake.calls ka true _ HA.out).mono ?_
    rintro e wz ⟨rfl, hb⟩
    have HB := Aside0.mk (below_step HB.out hb)
    clear hb
    go_wp2
    go_ret
    exact ⟨rfl, HB.out⟩
  | true =>
  go_wp2_with (fail)
  refine (tenetref02_Valid.calls K4 a0 A2 c2 l2 b4 _ (Kd.C_below HR2.out HB.out) HC2.out H4.out).mono ?_
  rintro e w4 ⟨rfl, hb⟩
  have HB := Aside0.mk (below_step HB.out hb)
  clear hb H4
  cases b4 with
  | false =>
    go_wp2_with (fail)
    refine (tenetlaw02_awake.calls ka true _ HA.out).mono ?_
    rintro e wz ⟨rfl, hb⟩
    have HB := Aside0.mk (below_step HB.out hb)
    clear hb
    go_wp2
    go_ret
    exact ⟨rfl, HB.out⟩
  | true =>
  have hl1 := HL1.out (by first | rfl | trivial)
  have hl2 := HL2.out (by first | rfl | trivial)
  rcases HF.out hl1 hl2 HBV.out HBW.out with ⟨s, e0, he0, ⟨K5, hK5⟩⟩ | ⟨m, s, b, d, g, t, rfl, hm12, hbl, ⟨K5, hK5⟩, ⟨K6, hK6⟩, ⟨K7, hK7⟩, ⟨K8, hK8⟩, ⟨K9, hK9⟩, ⟨K10, hK10⟩, hg0⟩
  · have H5 := Aside0.mk (hK5 _ (Nat.le_refl _))
    have hde : (e0 != 0) = true := by simpa using he0
    clear hK5 he0 HF HBV HBW HL1 HL2
    go_wp2_with (fail)
    refine (graph_Solve.calls K5 a0 A1 c1 l1 s e0 _ (Kd.C_below HR.out HB.out) HC.out H5.out).mono ?_
    rintro e w5 ⟨vs, rfl, hvs, hb⟩
    have HB := Aside0.mk (below_step HB.out hb)
    clear hb hvs H5
    go_wp2_with (fail)
    refine (tenetlaw02_awake.calls ka true _ HA.out).mono ?_
    rintro e wz ⟨rfl, hb⟩
    have HB := Aside0.mk (below_step HB.out hb)
    clear hb
    go_wp2
    go_ret
    exact ⟨rfl, HB.out⟩
  have H5 := Aside0.mk (hK5 _ (Nat.le_refl _))
  have H6 := Aside0.mk (hK6 _ (Nat.le_refl _))
  have H7 := Aside0.mk (hK7 _ (Nat.le_refl _))
  have H8 := Aside0.mk (hK8 _ (Nat.le_refl _))
  have H9 := Aside0.mk (hK9 _ (Nat.le_refl _))
  have H10 := Aside0.mk (hK10 _ (Nat.le_refl _))
  have HG := Aside0.mk hg0
  have HM := Aside0.mk hm12
  have HBL := Aside0.mk hbl
  obtain ⟨K11, hK11⟩ := ev_eqi b (by omega)
  have H11 := Aside0.mk (hK11 _ (Nat.le_refl _))
  clear hK5 hK6 hK7 hK8 hK9 hK10 hK11 hg0 hm12 hbl HF HBV HBW HL1 HL2
  have hgg : (g != g) = false := by simp
  go_wp2_with (fail)
  refine (graph_Solve.calls K5 (m : Int) A1 c1 l1 s 0 _ (Kd.C_below HR.out HB.out) HC.out H5.out).mono ?_
  rintro e wc ⟨vs, rfl, hvs, hb⟩
  have HBW := Aside0.mk (below_step HB.out hb)
  obtain ⟨As, cs, hvs2⟩ := Kd.V_slice hvs
  subst hvs2
  have HS := Aside0.mk (Kd.V_reads' hvs)
  clear hb hvs H5 HB
  have hzc := HBW.out.size
  have HB0 := Aside0.mk (below_alloc (Below.refl wc.heap.size wc) (.cells #[] 44))
  have HN := Aside0.mk (empty44 wc wc.heap.size (Nat.le_refl _))
  have HF1 := Aside0.mk (Kd.F_below (Kd.F_below (Kd.C_F k44_heap HR.out) HBW.out) HB0.out)
  go_wp2_with (first | (at_builtin; refine Kd.N_append_rows k44 (w0 := wc) wc.heap.size rfl (.tmp 50) (.tmp 51) 22 44 (.agg #[(.int .i64 0), (.slice none 0 0), (.int .i64 0), (.slice none 0 0)]) 64 rfl Try.underlying22 info44 rfl (by decide) (by omega) (.slice (some ⟨wc.heap.size, 0, none⟩) 0 0) ([] : List S44) l1 A1 l1.length c1 (fun _ => True) (fun k_ => k_ < w.heap.size) rfl rfl HN.out HF1.out (fun k_ hk => ⟨trivial, fun e_ => by have := Kd.N_base HN.out k_ e_.symm; omega⟩) (fun _ _ => trivial) HB0.out HB0.out.size (by first | omega | (simp; omega)) ?_; intro v1 w5 ho hb hg hat; rw [List.nil_append] at ho; have HN4 := Aside0.mk ho; have HB4 := Aside0.mk hb; have HFX := Aside0.mk (Kd.F_below (Kd.F_below (Kd.C_F k44_heap HR2.out) HBW.out) HB4.out); clear ho hb hg hat HF1 HN HB0) | (at_builtin; refine Kd.N_append_rows k44 (w0 := wc) wc.heap.size rfl (.tmp 53) (.tmp 54) 22 44 (.agg #[(.int .i64 0), (.slice none 0 0), (.int .i64 0), (.slice none 0 0)]) 64 rfl Try.underlying22 info44 rfl (by decide) (by omega) v1 l1 l2 A2 l2.length c2 (fun _ => True) (fun k_ => k_ < w.heap.size) rfl rfl HN4.out HFX.out (fun k_ hk => ⟨trivial, fun e_ => by have := Kd.N_base HN4.out k_ e_.symm; omega⟩) (fun _ _ => trivial) HB4.out HB4.out.size (by first | omega | (simp; omega)) ?_; intro v2 w6 ho hb hg hat; have HN5 := Aside0.mk ho; have HB5 := Aside0.mk hb; obtain ⟨Ab, cb, hvb, hlb, hCb⟩ := Kd.N_reads HN5.out; subst hvb; have HQL := Aside0.mk hlb; have HQ := Aside0.mk hCb; have HBX := Aside0.mk (below_step HBW.out HB5.out); have hz6 := HBX.out.size; have HB0 := Aside0.mk (below_alloc (Below.refl w6.heap.size w6) (.cells #[] 44)); have HN := Aside0.mk (empty44 w6 w6.heap.size (Nat.le_refl _)); have HF1 := Aside0.mk (Kd.F_below (Kd.F_below (Kd.C_F k44_heap HR2.out) HBX.out) HB0.out); clear ho hb hg hat HN4 HB4 HFX hlb hCb HN5) | (at_builtin; refine Kd.N_append_rows k44 (w0 := w6) w6.heap.size rfl (.tmp 56) (.tmp 57) 22 44 (.agg #[(.int .i64 0), (.slice none 0 0), (.int .i64 0), (.slice none 0 0)]) 64 rfl Try.underlying22 info44 rfl (by decide) (by omega) (.slice (some ⟨w6.heap.size, 0, none⟩) 0 0) ([] : List S44) l2 A2 l2.length c2 (fun _ => True) (fun k_ => k_ < w.heap.size) rfl rfl HN.out HF1.out (fun k_ hk => ⟨trivial, fun e_ => by have := Kd.N_base HN.out k_ e_.symm; omega⟩) (fun _ _ => trivial) HB0.out HB0.out.size (by first | omega | (simp; omega)) ?_; intro v3 w7 ho hb hg hat; rw [List.nil_append] at ho; have HN6 := Aside0.mk ho; have HB6 := Aside0.mk hb; have HFY := Aside0.mk (Kd.F_below (Kd.F_below (Kd.C_F k44_heap HR.out) HBX.out) HB6.out); clear ho hb hg hat HF1 HN HB0) | (at_builtin; refine Kd.N_append_rows k44 (w0 := w6) w6.heap.size rfl (.tmp 59) (.tmp 60) 22 44 (.agg #[(.int .i64 0), (.slice none 0 0), (.int .i64 0), (.slice none 0 0)]) 64 rfl Try.underlying22 info44 rfl (by decide) (by omega) v3 l2 l1 A1 l1.length c1 (fun _ => True) (fun k_ => k_ < w.heap.size) rfl rfl HN6.out HFY.out (fun k_ hk => ⟨trivial, fun e_ => by have := Kd.N_base HN6.out k_ e_.symm; omega⟩) (fun _ _ => trivial) HB6.out HB6.out.size (by first | omega | (simp; omega)) ?_; intro v4 w8 ho hb hg hat; have HN7 := Aside0.mk ho; have HB7 := Aside0.mk hb; obtain ⟨Ap, cp, hvp, hlp, hCp⟩ := Kd.N_reads HN7.out; subst hvp; have HPL := Aside0.mk hlp; have HP := Aside0.mk hCp; have HB := Aside0.mk (below_step HBX.out HB7.out); have HQ := Aside0.mk (Kd.C_below HQ.out HB7.out); have HS2 := Aside0.mk (Kd.C_below (Kd.C_below HS.out.2.2 HB5.out) HB7.out); clear ho hb hg hat HN6 HB6 HBX HB5 hlp hCp))
  clear HFY HN7 HB7
  obtain ⟨bo, hbo⟩ : ∃ bo, bo = l1 ++ l2 := ⟨_, rfl⟩
  obtain ⟨ba, hba⟩ : ∃ ba, ba = l2 ++ l1 := ⟨_, rfl⟩
  have hbo2 : l1.length + l2.length = bo.length := by rw [hbo, List.length_append]
  have hba2 : l2.length + l1.length = ba.length := by rw [hba, List.length_append]
  rw [← hbo] at HQ HQL H7 H9
  rw [← hba] at HP HPL H8
  rw [hbo2, hba2]
  clear hbo2 hba2
  clear hbo hba
  refine (graph_Extend.calls K6 (m : Int) A1 c1 l1 As cs s A2 c2 l2 b g _ (Kd.C_below HR.out HB.out) HC.out HS2.out HS.out.2.1 (Kd.C_below HR2.out HB.out) HC2.out H6.out).mono ?_
  rintro e x1 ⟨va, rfl, hva, hb⟩
  have HB := Aside0.mk (below_step HB.out hb)
  have HQ := Aside0.mk (Kd.C_below HQ.out hb)
  have HP := Aside0.mk (Kd.C_below HP.out hb)
  obtain ⟨Aa, ca, hva2⟩ := Kd.R_slice hva
  subst hva2
  have HX := Aside0.mk (Kd.R_reads' hva)
  have HXC := Aside0.mk HX.out.2.2
  clear hb hva H6 HS HS2
  go_wp2_with (fail)
  refine (graph_Solve.calls K7 (m : Int) Ab cb bo b g _ HQ.out HQL.out H7.out).mono ?_
  rintro e x2 ⟨vb, rfl, hvb, hb⟩
  have HB := Aside0.mk (below_step HB.out hb)
  have HQ := Aside0.mk (Kd.C_below HQ.out hb)
  have HP := Aside0.mk (Kd.C_below HP.out hb)
  have HXC := Aside0.mk (Kd.C_below HXC.out hb)
  obtain ⟨Ay, cy, hvb2⟩ := Kd.V_slice hvb
  subst hvb2
  have HY := Aside0.mk (Kd.V_reads' hvb)
  have HYC := Aside0.mk HY.out.2.2
  clear hb hvb H7
  go_wp2_with (fail)
  refine (graph_Solve.calls K8 (m : Int) Ap cp ba b g _ HP.out HPL.out H8.out).mono ?_
  rintro e x3 ⟨vc, rfl, hvc, hb⟩
  have HB := Aside0.mk (below_step HB.out hb)
  have HQ := Aside0.mk (Kd.C_below HQ.out hb)
  have HXC := Aside0.mk (Kd.C_below HXC.out hb)
  have HYC := Aside0.mk (Kd.C_below HYC.out hb)
  obtain ⟨Az, cz, hvc2⟩ := Kd.V_slice hvc
  subst hvc2
  have HZ := Aside0.mk (Kd.V_reads' hvc)
  have HWC := Aside0.mk HZ.out.2.2
  clear hb hvc H8 HP HPL
  go_wp2_with (fail)
  refine (tenetref00_EqInts.calls K11 Aa ca b Ay cy b true _ HXC.out HX.out.2.1 HYC.out HY.out.2.1 H11.out).mono ?_
  rintro e x4 ⟨rfl, hd⟩
  have HB := Aside0.mk (below_step HB.out (drawnB hd))
  have HQ := Aside0.mk (Kd.C_below HQ.out (drawnB hd))
  have HYC := Aside0.mk (Kd.C_below HYC.out (drawnB hd))
  have HWC := Aside0.mk (Kd.C_below HWC.out (drawnB hd))
  clear hd HXC HX
  go_wp2_with (fail)
  refine (tenetref00_EqInts.calls K11 Ay cy b Az cz b true _ HYC.out HY.out.2.1 HWC.out HZ.out.2.1 H11.out).mono ?_
  rintro e x5 ⟨rfl, hd⟩
  have HB := Aside0.mk (below_step HB.out (drawnB hd))
  have HQ := Aside0.mk (Kd.C_below HQ.out (drawnB hd))
  have HYC := Aside0.mk (Kd.C_below HYC.out (drawnB hd))
  clear hd HWC HZ H11
  go_wp2_with (fail)
  refine (tenetlaw02_turned.calls K9 (m : Int) Ab cb bo t _ HQ.out HQL.out H9.out).mono ?_
  rintro e x6 ⟨vt, rfl, hvt, hb⟩
  have HB := Aside0.mk (below_step HB.out hb)
  have HYC := Aside0.mk (Kd.C_below HYC.out hb)
  have hvt := Kd.S_R hvt
  obtain ⟨At, ct, hvt2⟩ := Kd.R_slice hvt
  subst hvt2
  have HT := Aside0.mk (Kd.R_reads' hvt)
  clear hb hvt H9 HQ HQL
  go_wp2_with (fail)
  refine (graph_Solve.calls K10 (m : Int) At ct t d g _ HT.out.2.2 HT.out.2.1 H10.out).mono ?_
  rintro e x7 ⟨vd, rfl, hvd, hb⟩
  have HB := Aside0.mk (below_step HB.out hb)
  have HYC := Aside0.mk (Kd.C_below HYC.out hb)
  obtain ⟨Ad, cd, hvd2⟩ := Kd.V_slice hvd
  subst hvd2
  have HD := Aside0.mk (Kd.V_reads' hvd)
  have HDC := Aside0.mk HD.out.2.2
  clear hb hvd H10 HT HD
  rcases HG.out with ⟨hg0, hdl, hbl, hrev⟩ | hg0
  · subst hg0
    have HREV := Aside0.mk hrev
    have HDL := Aside0.mk hdl
    have HBL2 := Aside0.mk hbl
    have hln : ((d.length : Int) != (m : Int)) = false := by rw [bne_eq_false_iff_eq]; omega
    have HB7 := Aside0.mk (Below.refl x7.heap.size x7)
    clear hrev hdl hbl HG HBL
    go_wp2
    go_loopg [19] m (fun kq v19 w' => ∃ (j : Nat), v19 = .int .i64 (j : Int) ∧ Aside0 (kq + j = m) ∧ Aside0 (Below x7.heap.size x7 w'))
    case atStart => exact ⟨0, rfl, ⟨rfl⟩, HB7⟩
    case round =>
      clear HB7
      obtain ⟨j, rfl, HK, HB7⟩ := hrel
      by_cases hlt : j < m
      · have hj1 : (j : Int) < (m : Int) := by omega
        have hj2 : (j : Int) < (d.length : Int) := by have := HDL.out; omega
        have hj0 : (0 : Int) ≤ (j : Int) := by omega
        have hm := HM.out
        have hsb : wrap64 (wrap64 ((m : Int) - 1) - (j : Int)) = ((m - 1 - j : Nat) : Int) := by unfold wrap64; omega
        obtain ⟨y, hy⟩ : ∃ y : Nat, y = m - 1 - j := ⟨_, rfl⟩
        rw [← hy] at hsb
        have hsb2 : IntKind.i64.wrap (IntKind.i64.wrap ((m : Int) - 1) - (j : Int)) = (y : Int) := by rw [IntKind.wrap_i64, IntKind.wrap_i64]; omega
        have hy2 : (y : Int) < (b.length : Int) := by have := HBL2.out; omega
        have hy0 : (0 : Int) ≤ (y : Int) := by omega
        obtain ⟨ad, e1, zd⟩ := Kd.at_int HDC.out (j : Int) hj0 hj2
        obtain ⟨ay, e2, zy⟩ := Kd.at_int HYC.out (y : Int) hy0 hy2
        cases e1
        cases e2
        rw [Int.toNat_natCast] at zd zy
        replace zd := (HB7.out.cell (World.block_lt_of_cell? x7 _ zd)).trans zd
        replace zy := (HB7.out.cell (World.block_lt_of_cell? x7 _ zy)).trans zy
        have hr := HREV.out j hlt
        rw [← hy] at hr
        have hr1 : rd d (j : Int) = d.getD j 0 := by simp [rd]
        have hr2 : rd b (y : Int) = b.getD y 0 := by simp [rd]
        rw [hr1, hr] at zd
        rw [hr2] at zy
        have hne : (b.getD y 0 != b.getD y 0) = false := by simp
        clear hr1 hr2 hr hy
        generalize b.getD y 0 = bb at zd zy hne
        go_wp2
        go_quiet (fail)
        go_wp2
        go_roundg (m - j - 1)
        case measure => have := HK.out; omega
        case rel => exact ⟨j + 1, by go_num, ⟨by omega⟩, ⟨pw_below_drewN HB7.out _⟩⟩
      · have hj1 : decide ((j : Int) < (m : Int)) = false := decide_eq_false (by omega)
        have HB := Aside0.mk (below_step HB.out HB7.out)
        clear HB7 HK HDC HYC
        go_wp2_with (fail)
        refine (tenetlaw02_awake.calls ka true _ HA.out).mono ?_
        rintro e wz ⟨rfl, hb⟩
        have HB := Aside0.mk (below_step HB.out hb)
        clear hb
        go_wp2
        go_ret
        exact ⟨rfl, HB.out⟩
  · have hgz : (g == 0) = false := beq_eq_false_iff_ne.2 hg0
    have HB7 := Aside0.mk (Below.refl x7.heap.size x7)
    clear hg0 HG HBL
    go_wp2
    go_loopg [19] 0 (fun kq v19 w' => v19 = .int .i64 0 ∧ Aside0 (Below x7.heap.size x7 w'))
    case atStart => exact ⟨rfl, HB7⟩
    case round =>
      clear HB7
      obtain ⟨rfl, HB7⟩ := hrel
      have HB := Aside0.mk (below_step HB.out HB7.out)
      clear HB7 HDC HYC
      by_cases hm0 : (0 : Int) < (m : Int)
      · have hj1 : decide ((0 : Int) < (m : Int)) = true := decide_eq_true hm0
        go_wp2_with (fail)
        refine (tenetlaw02_awake.calls ka true _ HA.out).mono ?_
        rintro e wz ⟨rfl, hb⟩
        have HB := Aside0.mk (below_step HB.out hb)
        clear hb
        go_wp2
        go_ret
        exact ⟨rfl, HB.out⟩
      · have hj1 : decide ((0 : Int) < (m : Int)) = false := decide_eq_false hm0
        go_wp2_with (fail)
        refine (tenetlaw02_awake.calls ka true _ HA.out).mono ?_
        rintro e wz ⟨rfl, hb⟩
        have HB := Aside0.mk (below_step HB.out hb)
        clear hb
        go_wp2
        go_ret
        exact ⟨rfl, HB.out⟩
theorem tenetlaw02_GraphJoins.calls (k : Nat) (a0 : Int) (A1 : Option Addr) (c1 : Nat) (l1 : List (S44)) (A2 : Option Addr) (c2 : Nat) (l2 : List (S44)) (r : Bool) (w : World) (hr1 : Kd.C k44 w A1 l1.length l1) (hc1 : l1.length ≤ c1) (hr2 : Kd.C k44 w A2 l2.length l2) (hc2 : l2.length ≤ c2) (h : tenetlaw02_GraphJoins.f k a0 l1 l2 = some r) :
    Calls Try.prog 16 #[.int .i64 a0, .slice A1 l1.length c1, .slice A2 l2.length c2] w fun e w' => e = .returned (.bool r) ∧ Below w.heap.size w w' := by
  obtain rfl := Option.some.inj h
  exact lawJoins_any a0 A1 c1 l1 A2 c2 l2 w hr1 hc1 hr2 hc2
end Go.Proofs.Ytegejpcglabhbaa.G
