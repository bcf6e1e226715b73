/- Hand-made walk: the law GraphReaches. -/
import Derived.Test.YtegejpcglabhbaaGMr
import Derived.Test.YtegejpcglabhbaaGLh
import Derived.Test.YtegejpcglabhbaaVX
import Derived.Test.YtegejpcglabhbaaVY
namespace Go.Proofs.Ytegejpcglabhbaa.G
open Go.RowKit Go.Proofs.YtegejpcglabhbaaW.PrintWords Go.Proofs.YtegejpcglabhbaaW.PrintLast Go.Proofs.YtegejpcglabhbaaW.PrintMore
set_option linter.unusedVariables false
set_option linter.unusedSimpArgs false

def tenetlaw02_GraphReaches.f (_k : Nat) (_a0 : Int) (_l1 : List S44) (_a2_0 : Int) (_a2_1 : Int) : Option Bool := some true
theorem GraphReaches_pure (a0 : Int) (l1 : List S44) (a2_0 : Int) (a2_1 : Int) : ∃ k, tenetlaw02_GraphReaches.f k a0 l1 a2_0 a2_1 = some true := ⟨0, rfl⟩
set_option maxHeartbeats 8000000 in
set_option maxRecDepth 100000 in
theorem lawReaches_any (a0 : Int) (A1 : Option Addr) (c1 : Nat) (l1 : List S44) (v much : Int) (w : World) (hr1 : Kd.C k44 w A1 l1.length l1) (hc1 : l1.length ≤ c1) :
    Calls Try.prog 7 #[.int .i64 a0, .slice A1 l1.length c1, .agg #[.int .i64 v, .int .i64 much]] w fun e w' => e = .returned (.bool true) ∧ Below w.heap.size w w' := by
  have hu38 := Try.underlying38
  have HR := Aside0.mk hr1
  have HC := Aside0.mk hc1
  have hm1 : l1.length ≤ 9223372036854775807 := hr1.2.1
  clear hr1 hc1
  obtain ⟨ka, hka⟩ := ev_awake.rounds
  have HA := Aside0.mk hka
  clear hka
  have BX := Aside0.mk (blk_new w (.cells #[.int .i64 v, .int .i64 much] 38))
  have HB := Aside0.mk (below_alloc (Below.refl w.heap.size w) (.cells #[.int .i64 v, .int .i64 much] 38))
  have z0 := (blk_cell BX.out 0).trans rfl
  have z1 := (blk_cell BX.out 1).trans rfl
  obtain ⟨b1, hb1⟩ : ∃ b, (∃ k, tenetlaw02_heavy.f k a0 l1 60 = some b) ∧ (b = false → l1.length ≤ 60) := by
    rcases ev_heavy a0 l1 60 (by omega) with h | ⟨_, h2, h⟩
    · exact ⟨_, h.rounds, fun e => by cases e⟩
    · exact ⟨_, h.rounds, fun _ => by omega⟩
  obtain ⟨⟨K1, hK1⟩, hl60⟩ := hb1
  have H1 := Aside0.mk hK1
  have HL60 := Aside0.mk hl60
  clear hK1 hl60
  go_enter Try.func7, Try.ntmps7
  go_wp2
  go_quiet (fail)
  clear z0 z1 BX
  replace HB := Aside0.mk (pw_below_drewN HB.out nq)
  obtain ⟨w1, hw1⟩ : ∃ w1, w1 = (w.alloc (.cells #[.int .i64 v, .int .i64 much] 38)).drewN nq := ⟨_, rfl⟩
  rw [← hw1] at HB ⊢
  clear hw1
  go_wp2_with (fail)
  refine (tenetlaw02_heavy.calls K1 a0 A1 c1 l1 60 b1 _ (Kd.C_below HR.out HB.out) HC.out H1.out).mono ?_
  rintro e w2 ⟨rfl, hd⟩
  replace HB := Aside0.mk (below_step HB.out (drawnB hd))
  clear hd H1
  cases b1 with
  | true =>
    go_wp2_with (fail)
    refine (tenetlaw02_awake.calls ka true _ HA.out).mono ?_
    rintro e wz ⟨rfl, hb⟩
    have HB := Aside0.mk (below_step HB.out hb)
    clear hb
    go_wp2
    go_ret
    exact ⟨rfl, HB.out⟩
  | false =>
  have hl60 := HL60.out rfl
  clear HL60
  by_cases hm0 : much < 0
  · have hd0 : decide (much < 0) = true := decide_eq_true hm0
    go_wp2_with (fail)
    refine (tenetlaw02_awake.calls ka true _ HA.out).mono ?_
    rintro e wz ⟨rfl, hb⟩
    have HB := Aside0.mk (below_step HB.out hb)
    clear hb
    go_wp2
    go_ret
    exact ⟨rfl, HB.out⟩
  have hd0 : decide (much < 0) = false := decide_eq_false hm0
  by_cases hm2 : 1000 < much
  · have hd2 : decide (1000 < much) = true := decide_eq_true hm2
    go_wp2_with (fail)
    refine (tenetlaw02_awake.calls ka true _ HA.out).mono ?_
    rintro e wz ⟨rfl, hb⟩
    have HB := Aside0.mk (below_step HB.out hb)
    clear hb
    go_wp2
    go_ret
    exact ⟨rfl, HB.out⟩
  have hd2 : decide (1000 < much) = false := decide_eq_false hm2
  rcases reaches_facts a0 l1 v hl60 with ⟨a, ok, e0, he0, ⟨K2, hK2⟩⟩ | ⟨m, u, a, ok, rfl, rfl, hum, hm12, ha0, ⟨K2, hK2⟩, hsol, hno⟩
  · have H2 := Aside0.mk (hK2 _ (Nat.le_refl _))
    have hde : (e0 != 0) = true := by simpa using he0
    clear hK2 he0
    go_wp2_with (fail)
    refine (graph_Bound.calls K2 a0 A1 c1 l1 v a ok e0 _ (Kd.C_below HR.out HB.out) HC.out H2.out).mono ?_
    rintro e w3 ⟨rfl, hb⟩
    have HB := Aside0.mk (below_step HB.out hb)
    clear hb H2
    go_wp2_with (fail)
    refine (tenetlaw02_awake.calls ka true _ HA.out).mono ?_
    rintro e wz ⟨rfl, hb⟩
    have HB := Aside0.mk (below_step HB.out hb)
    clear hb
    go_wp2
    go_ret
    exact ⟨rfl, HB.out⟩
  have H2 := Aside0.mk (hK2 _ (Nat.le_refl _))
  have HSOL := Aside0.mk hsol
  have HNO := Aside0.mk hno
  clear hK2 hsol hno
  go_wp2_with (fail)
  refine (graph_Bound.calls K2 (m : Int) A1 c1 l1 (u : Int) a ok 0 _ (Kd.C_below HR.out HB.out) HC.out H2.out).mono ?_
  rintro e w3 ⟨rfl, hb⟩
  have HB := Aside0.mk (below_step HB.out hb)
  clear hb H2
  cases ok with
  | false =>
    have hwp : (0 : Int) ≤ much := by omega
    by_cases hbig : 1000 < much
    · have hdb : decide (1000 < much) = true := decide_eq_true hbig
      have hdp : decide ((0 : Int) ≤ much) = true := decide_eq_true hwp
      go_wp2_with (fail)
      refine (tenetlaw02_awake.calls ka true _ HA.out).mono ?_
      rintro e wz ⟨rfl, hb⟩
      have HB := Aside0.mk (below_step HB.out hb)
      clear hb
      go_wp2
      go_ret
      exact ⟨rfl, HB.out⟩
    have hdb : decide (1000 < much) = false := decide_eq_false hbig
    have hdn : decide (much < 0) = false := decide_eq_false (by omega)
    obtain ⟨s, hs1, hs2, ⟨K3, hK3⟩⟩ := HSOL.out much hwp (by omega) (fun h => by cases h)
    have H3 := Aside0.mk (hK3 _ (Nat.le_refl _))
    have HS2 := Aside0.mk hs2
    have HS1 := Aside0.mk hs1
    clear hK3 hs1 hs2
    have HB0 := Aside0.mk (below_alloc (Below.refl w3.heap.size w3) (.cells #[] 44))
    have HN := Aside0.mk (empty44 w3 w3.heap.size (Nat.le_refl _))
    have HBW := Aside0.mk HB.out
    have hz3 := HBW.out.size
    have HF1 := Aside0.mk (Kd.F_below (Kd.F_below (Kd.C_F k44_heap HR.out) HB.out) HB0.out)
    go_wp2_with (at_builtin; refine Kd.N_append_rows k44 (w0 := w3) w3.heap.size rfl (.tmp 60) (.tmp 61) 22 44 (.agg #[(.int .i64 0), (.slice none 0 0), (.int .i64 0), (.slice none 0 0)]) 64 rfl Try.underlying22 info44 rfl (by decide) (by omega) (.slice (some ⟨w3.heap.size, 0, none⟩) 0 0) ([] : List S44) l1 A1 l1.length c1 (fun _ => True) (fun k_ => k_ < w.heap.size) rfl rfl HN.out HF1.out (fun k_ hk => ⟨trivial, fun e_ => by have := Kd.N_base HN.out k_ e_.symm; omega⟩) (fun _ _ => trivial) HB0.out HB0.out.size (by simp; omega) ?_; intro v1 w4 ho hb hg hat; rw [List.nil_append] at ho; have HN4 := Aside0.mk ho; have HB4 := Aside0.mk hb; clear ho hb hg hat)
    clear HF1 HN HB0
    refine (tenetlaw02_at.calls (u : Int) 0 0 [⟨(u : Int), 0⟩] _ rfl).mono ?_
    rintro e w5 ⟨v5, rfl, hv5, hb⟩
    obtain ⟨A7, c7, hv7, hc7, hF7⟩ := at_F hv5
    subst hv7
    have HF7 := Aside0.mk hF7
    have HC7 := Aside0.mk hc7
    have HV7 := Aside0.mk (Kd.R_base hv5)
    have HNL := Aside0.mk (Kd.N_lt HN4.out)
    have HN5 := Aside0.mk (Kd.N_below HN4.out hb)
    have HB5 := Aside0.mk (below_step HB4.out hb)
    clear hv5 hb hF7 hc7 HN4 HB4
    have hl1 : ([⟨(u : Int), 0⟩] : List S96).length = 1 := rfl
    rw [hl1] at HF7 HC7 HV7 ⊢
    clear hl1
    have HFK := Aside0.mk (k44_mkF w5 (fun k_ => some k_ = (Value.slice A7 1 c7).ownBlock) (cW much (u : Int)) (A1 := none) (c1 := 0) (Nat.le_refl _) (F96_nil _ _) (A3 := A7) (c3 := c7) HC7.out HF7.out)
    have HFKC : Aside0 (Kd.FK k44 w5 (fun k_ => some k_ = (Value.slice A7 1 c7).ownBlock) (cW much (u : Int)) [.int .i64 much, .slice none 0 0, .int .i64 0, .slice A7 1 c7]) := ⟨HFK.out⟩
    clear HFK
    go_wp2_with (at_builtin; refine Kd.N_append k44 (w0 := w3) w3.heap.size rfl (.tmp 63) (.tmp 69) 22 44 (.agg #[(.int .i64 0), (.slice none 0 0), (.int .i64 0), (.slice none 0 0)]) 64 rfl Try.underlying22 info44 rfl (by decide) (by omega) v1 l1 (cW much (u : Int)) [.int .i64 much, .slice none 0 0, .int .i64 0, .slice A7 1 c7] (fun _ => True) (fun k_ => some k_ = (Value.slice A7 1 c7).ownBlock) rfl rfl HFKC.out (fun k_ hk => ⟨trivial, fun e_ => by have h1 := HNL.out k_ e_.symm; have h2 := HV7.out k_ hk.symm; omega⟩) (fun _ _ => trivial) HN5.out HB5.out HB5.out.size (by omega) ?_; intro v6 w6 ho hb hg hat; have HN6 := Aside0.mk ho; have HB6 := Aside0.mk hb; clear ho hb hg hat)
    clear HFKC HNL HV7 HF7 HC7 HN5 HB5
    obtain ⟨g6, c6, hv6, hg6, hg62, hty6⟩ := Kd.N_form HN6.out (by simp)
    subst hv6
    have HRD := Aside0.mk (Kd.N_reads' HN6.out)
    have HTY := Aside0.mk hty6
    have HLE := Aside0.mk (show (l1 ++ [cW much (u : Int)]).length = l1.length + 1 by simp)
    have HB := Aside0.mk (below_step HBW.out HB6.out)
    clear hty6
    have hs7 := graph_Solve.calls K3 (m : Int) (some ⟨g6, 0, none⟩) c6 (l1 ++ [cW much (u : Int)]) s 0 w6 HRD.out.2.2 HRD.out.2.1 H3.out
    obtain ⟨ln6, hln6⟩ : ∃ ln6, ln6 = (l1 ++ [cW much (u : Int)]).length := ⟨_, rfl⟩
    rw [← hln6] at hs7 HRD HN6 ⊢
    have HS7 := Aside0.mk hs7
    have HLN := Aside0.mk hln6
    clear hs7 hln6
    go_wp2_with (fail)
    refine HS7.out.mono ?_
    rintro e w7 ⟨vs, rfl, hvs, hb⟩
    obtain ⟨As, cs, hvs2⟩ := Kd.V_slice hvs
    subst hvs2
    have HN7 := Aside0.mk (Kd.N_below HN6.out hb)
    have HB7 := Aside0.mk (below_step HB.out hb)
    have HVS := Aside0.mk (Kd.V_reads' hvs)
    obtain ⟨ads, es, zs⟩ := Kd.at_int HVS.out.2.2 (u : Int) (by omega) (by have := HS1.out; omega)
    cases es
    rw [Int.toNat_natCast] at zs
    have hrs : rd s (u : Int) = s.getD u 0 := by simp [rd]
    rw [hrs] at zs
    have hsl : s.length = m := HS1.out
    have hun : (u : Int) < (s.length : Int) := by omega
    have hdl : ((s.length : Int) != (m : Int)) = false := by rw [bne_eq_false_iff_eq]; omega
    have hds : decide (s.getD u 0 < much) = false := decide_eq_false (by have := HS2.out; omega)
    clear hrs hsl hb hvs HN6 HB HRD HS7 HB6
    generalize s.getD u 0 = su at zs hds
    have HB := HB7
    go_wp2_with (fail)
    refine (tenetlaw02_awake.calls ka true _ HA.out).mono ?_
    rintro e wz ⟨rfl, hb⟩
    have HB := Aside0.mk (below_step HB.out hb)
    clear hb
    go_wp2
    go_ret
    exact ⟨rfl, HB.out⟩
  | true =>
    have hwp : (0 : Int) ≤ a := by omega
    by_cases hbig : 1000 < a
    · have hdb : decide (1000 < a) = true := decide_eq_true hbig
      have hdp : decide ((0 : Int) ≤ a) = true := decide_eq_true hwp
      go_wp2_with (fail)
      refine (tenetlaw02_awake.calls ka true _ HA.out).mono ?_
      rintro e wz ⟨rfl, hb⟩
      have HB := Aside0.mk (below_step HB.out hb)
      clear hb
      go_wp2
      go_ret
      exact ⟨rfl, HB.out⟩
    have hdb : decide (1000 < a) = false := decide_eq_false hbig
    have hdn : decide (a < 0) = false := decide_eq_false (by omega)
    obtain ⟨s, hs1, hs2, ⟨K3, hK3⟩⟩ := HSOL.out a hwp (by omega) (fun _ => rfl)
    have H3 := Aside0.mk (hK3 _ (Nat.le_refl _))
    have HS2 := Aside0.mk hs2
    have HS1 := Aside0.mk hs1
    clear hK3 hs1 hs2
    have HB0 := Aside0.mk (below_alloc (Below.refl w3.heap.size w3) (.cells #[] 44))
    have HN := Aside0.mk (empty44 w3 w3.heap.size (Nat.le_refl _))
    have HBW := Aside0.mk HB.out
    have hz3 := HBW.out.size
    have HF1 := Aside0.mk (Kd.F_below (Kd.F_below (Kd.C_F k44_heap HR.out) HB.out) HB0.out)
    go_wp2_with (at_builtin; refine Kd.N_append_rows k44 (w0 := w3) w3.heap.size rfl (.tmp 60) (.tmp 61) 22 44 (.agg #[(.int .i64 0), (.slice none 0 0), (.int .i64 0), (.slice none 0 0)]) 64 rfl Try.underlying22 info44 rfl (by decide) (by omega) (.slice (some ⟨w3.heap.size, 0, none⟩) 0 0) ([] : List S44) l1 A1 l1.length c1 (fun _ => True) (fun k_ => k_ < w.heap.size) rfl rfl HN.out HF1.out (fun k_ hk => ⟨trivial, fun e_ => by have := Kd.N_base HN.out k_ e_.symm; omega⟩) (fun _ _ => trivial) HB0.out HB0.out.size (by simp; omega) ?_; intro v1 w4 ho hb hg hat; rw [List.nil_append] at ho; have HN4 := Aside0.mk ho; have HB4 := Aside0.mk hb; clear ho hb hg hat)
    clear HF1 HN HB0
    refine (tenetlaw02_at.calls (u : Int) 0 0 [⟨(u : Int), 0⟩] _ rfl).mono ?_
    rintro e w5 ⟨v5, rfl, hv5, hb⟩
    obtain ⟨A7, c7, hv7, hc7, hF7⟩ := at_F hv5
    subst hv7
    have HF7 := Aside0.mk hF7
    have HC7 := Aside0.mk hc7
    have HV7 := Aside0.mk (Kd.R_base hv5)
    have HNL := Aside0.mk (Kd.N_lt HN4.out)
    have HN5 := Aside0.mk (Kd.N_below HN4.out hb)
    have HB5 := Aside0.mk (below_step HB4.out hb)
    clear hv5 hb hF7 hc7 HN4 HB4
    have hl1 : ([⟨(u : Int), 0⟩] : List S96).length = 1 := rfl
    rw [hl1] at HF7 HC7 HV7 ⊢
    clear hl1
    have HFK := Aside0.mk (k44_mkF w5 (fun k_ => some k_ = (Value.slice A7 1 c7).ownBlock) (cW a (u : Int)) (A1 := none) (c1 := 0) (Nat.le_refl _) (F96_nil _ _) (A3 := A7) (c3 := c7) HC7.out HF7.out)
    have HFKC : Aside0 (Kd.FK k44 w5 (fun k_ => some k_ = (Value.slice A7 1 c7).ownBlock) (cW a (u : Int)) [.int .i64 a, .slice none 0 0, .int .i64 0, .slice A7 1 c7]) := ⟨HFK.out⟩
    clear HFK
    go_wp2_with (at_builtin; refine Kd.N_append k44 (w0 := w3) w3.heap.size rfl (.tmp 63) (.tmp 69) 22 44 (.agg #[(.int .i64 0), (.slice none 0 0), (.int .i64 0), (.slice none 0 0)]) 64 rfl Try.underlying22 info44 rfl (by decide) (by omega) v1 l1 (cW a (u : Int)) [.int .i64 a, .slice none 0 0, .int .i64 0, .slice A7 1 c7] (fun _ => True) (fun k_ => some k_ = (Value.slice A7 1 c7).ownBlock) rfl rfl HFKC.out (fun k_ hk => ⟨trivial, fun e_ => by have h1 := HNL.out k_ e_.symm; have h2 := HV7.out k_ hk.symm; omega⟩) (fun _ _ => trivial) HN5.out HB5.out HB5.out.size (by omega) ?_; intro v6 w6 ho hb hg hat; have HN6 := Aside0.mk ho; have HB6 := Aside0.mk hb; clear ho hb hg hat)
    clear HFKC HNL HV7 HF7 HC7 HN5 HB5
    obtain ⟨g6, c6, hv6, hg6, hg62, hty6⟩ := Kd.N_form HN6.out (by simp)
    subst hv6
    have HRD := Aside0.mk (Kd.N_reads' HN6.out)
    have HTY := Aside0.mk hty6
    have HLE := Aside0.mk (show (l1 ++ [cW a (u : Int)]).length = l1.length + 1 by simp)
    have HB := Aside0.mk (below_step HBW.out HB6.out)
    clear hty6
    have hs7 := graph_Solve.calls K3 (m : Int) (some ⟨g6, 0, none⟩) c6 (l1 ++ [cW a (u : Int)]) s 0 w6 HRD.out.2.2 HRD.out.2.1 H3.out
    obtain ⟨ln6, hln6⟩ : ∃ ln6, ln6 = (l1 ++ [cW a (u : Int)]).length := ⟨_, rfl⟩
    rw [← hln6] at hs7 HRD HN6 ⊢
    have HS7 := Aside0.mk hs7
    have HLN := Aside0.mk hln6
    clear hs7 hln6
    go_wp2_with (fail)
    refine HS7.out.mono ?_
    rintro e w7 ⟨vs, rfl, hvs, hb⟩
    obtain ⟨As, cs, hvs2⟩ := Kd.V_slice hvs
    subst hvs2
    have HN7 := Aside0.mk (Kd.N_below HN6.out hb)
    have HB7 := Aside0.mk (below_step HB.out hb)
    have HVS := Aside0.mk (Kd.V_reads' hvs)
    obtain ⟨ads, es, zs⟩ := Kd.at_int HVS.out.2.2 (u : Int) (by omega) (by have := HS1.out; omega)
    cases es
    rw [Int.toNat_natCast] at zs
    have hrs : rd s (u : Int) = s.getD u 0 := by simp [rd]
    rw [hrs] at zs
    have hsl : s.length = m := HS1.out
    have hun : (u : Int) < (s.length : Int) := by omega
    have hdl : ((s.length : Int) != (m : Int)) = false := by rw [bne_eq_false_iff_eq]; omega
    have hds : decide (s.getD u 0 < a) = false := decide_eq_false (by have := HS2.out; omega)
    clear hrs hsl hb hvs HN6 HB HRD HS7 HB6
    generalize s.getD u 0 = su at zs hds
    by_cases hq1 : a = 1000
    · have hdq : (a == 1000) = true := beq_iff_eq.2 hq1
      clear hq1
      have HB := HB7
      go_wp2_with (fail)
      refine (tenetlaw02_awake.calls ka true _ HA.out).mono ?_
      rintro e wz ⟨rfl, hb⟩
      have HB := Aside0.mk (below_step HB.out hb)
      clear hb
      go_wp2
      go_ret
      exact ⟨rfl, HB.out⟩
    have hdq : (a == 1000) = false := beq_eq_false_iff_ne.2 hq1
    obtain ⟨K8, hK8⟩ := HNO.out (by first | rfl | trivial) (by omega)
    have H8 := Aside0.mk (hK8 _ (Nat.le_refl _))
    have hll := HLE.out
    have hln := HLN.out
    obtain ⟨cx, hcx1, hcx2, hcx3, hcx4⟩ := Kd.N_elem HN7.out z44 (l1.length : Int) (by omega) (by omega)
    have hget : (l1 ++ [cW a (u : Int)]).getD (l1.length : Int).toNat z44 = cW a (u : Int) := by rw [Int.toNat_natCast, List.getD_eq_getElem?_getD, List.getElem?_append_right (Nat.le_refl _), Nat.sub_self]; rfl
    rw [hget] at hcx2
    obtain ⟨A7, c7, A9, c9, hcx5, k1, g1, k3, g3⟩ := k44_openF hcx2
    subst hcx5
    obtain ⟨hN8, hg8⟩ := Kd.N_seg HN7.out (l1.length : Int) (by omega) (by omega) (c := [.int .i64 (cW a (u : Int)).f0.f0, .slice A7 (cW a (u : Int)).f0.f1.length c7, .int .i64 (cW a (u : Int)).f1.f0, .slice A9 (cW a (u : Int)).f1.f1.length c9]) (seg := [.int .i64 (a + 1)]) (j := 0) rfl hcx3 (show 0 + 1 ≤ 4 by decide) (x' := cW (a + 1) (u : Int)) (okp := fun k_ => True ∧ k_ ≠ g6) (k44_mkF _ _ (cW (a + 1) (u : Int)) (A1 := A7) (c1 := c7) k1 g1 (A3 := A9) (c3 := c9) k3 g3) (fun k_ hk => hk)
    have hset : (l1 ++ [cW a (u : Int)]).set (l1.length : Int).toNat (cW (a + 1) (u : Int)) = l1 ++ [cW (a + 1) (u : Int)] := by rw [Int.toNat_natCast, List.set_append_right _ _ (Nat.le_refl _), Nat.sub_self]; rfl
    rw [hset] at hN8
    have hz := hcx3 0 _ rfl
    have hfz := hcx4 0
    rw [Int.toNat_natCast] at hz hfz hN8 hg8
    have hz' : w7.cell? ⟨g6, l1.length * 4, none⟩ = some (.int .i64 a) := hz
    have hfz' : w7.frozen? ⟨g6, l1.length * 4, none⟩ = false := hfz
    have HN8 : Aside0 (Kd.N k44 44 (w7.setCell ⟨g6, l1.length * 4, none⟩ (.int .i64 (a + 1))) w3.heap.size (fun _ => True) (.slice (some ⟨g6, 0, none⟩) ln6 c6) (l1 ++ [cW (a + 1) (u : Int)])) := ⟨hN8⟩
    have HB8 : Aside0 (Below w.heap.size w (w7.setCell ⟨g6, l1.length * 4, none⟩ (.int .i64 (a + 1)))) := ⟨below_set HB7.out (by omega)⟩
    have hlx : (l1.length : Int) < (ln6 : Int) := by omega
    clear hcx1 hcx2 hcx3 hcx4 hget k1 g1 k3 g3 hN8 hg8 hset hz hfz hK8 hll hln HN7 HB7 hq1
    go_wp2_with (fail)
    have hs9 := graph_Solve.calls K8 (m : Int) (some ⟨g6, 0, none⟩) c6 (l1 ++ [cW (a + 1) (u : Int)]) [] 20 _ (Kd.N_reads' HN8.out).2.2 (by have := (Kd.N_reads' HN8.out).1; have := (Kd.N_reads' HN8.out).2.1; omega) H8.out
    rw [show (l1 ++ [cW (a + 1) (u : Int)]).length = ln6 from (Kd.N_reads' HN8.out).1.symm] at hs9
    refine hs9.mono ?_
    clear hs9
    rintro e w9 ⟨vt, rfl, hvt, hb⟩
    have HB9 := Aside0.mk (below_step HB8.out hb)
    clear hb hvt HN8 HB8 hz' hfz'
    have HB := HB9
    go_wp2_with (fail)
    refine (tenetlaw02_awake.calls ka true _ HA.out).mono ?_
    rintro e wz ⟨rfl, hb⟩
    have HB := Aside0.mk (below_step HB.out hb)
    clear hb
    go_wp2
    go_ret
    exact ⟨rfl, HB.out⟩
theorem tenetlaw02_GraphReaches.calls (k : Nat) (a0 : Int) (A1 : Option Addr) (c1 : Nat) (l1 : List (S44)) (a2_0 : Int) (a2_1 : Int) (r : Bool) (w : World) (hr1 : Kd.C k44 w A1 l1.length l1) (hc1 : l1.length ≤ c1) (h : tenetlaw02_GraphReaches.f k a0 l1 a2_0 a2_1 = some r) :
    Calls Try.prog 7 #[.int .i64 a0, .slice A1 l1.length c1, .agg #[.int .i64 a2_0, .int .i64 a2_1]] w fun e w' => e = .returned (.bool r) ∧ Below w.heap.size w w' := by
  obtain rfl := Option.some.inj h
  exact lawReaches_any a0 A1 c1 l1 a2_0 a2_1 w hr1 hc1
end Go.Proofs.Ytegejpcglabhbaa.G
