/- The reference's Descends and the law SizesDescends: the walks. No condition. -/
import Derived.Test.YtiepinfcndefhaaUf
namespace Go.Proofs.Ytiepinfcndefhaa.S
open Go.RowKit Go.Proofs.YtiepinfcndefhaaW.PrintWords Go.Proofs.YtiepinfcndefhaaW.PrintLast Go.Proofs.YtiepinfcndefhaaW.PrintMore
set_option linter.unusedVariables false
set_option linter.unusedSimpArgs false

theorem pow_next {c : Cl} {g : Gr} (hg : g = ⟨c.src, c.dst, tabC c.arcs⟩) (ht : GTab g) (k : Nat) : comp (tabC (arcsN (powG g k).tab 36)) (tabC c.arcs) = (powG g (k + 1)).tab := by
  rw [tabC_arcsN (powG_tab ht k)]
  show _ = (thenG (powG g k) g).tab
  rw [hg]
  rfl
theorem dstep_calls {c : Cl} {g : Gr} (hg : g = ⟨c.src, c.dst, tabC c.arcs⟩) (ht : GTab g) (hok : c.arcs.all okA = true) (k : Nat) {A B : Option Addr} {p q : Nat} {W : World} {base : Nat} (hbase : base ≤ W.heap.size) (ha : kAc.C W B (arcsN (powG g k).tab 36).length (arcsN (powG g k).tab 36)) (hb : kAc.C W A c.arcs.length c.arcs) :
    Calls Try.prog 44 #[.agg #[.string c.src, .string c.dst, .slice B (arcsN (powG g k).tab 36).length q], .agg #[.string c.src, .string c.dst, .slice A c.arcs.length p]] W fun e w' => ∃ v, e = .returned (.agg #[.string c.src, .string c.dst, v]) ∧ kAc.R 24 w' base (fun _ => True) v (arcsN (powG g (k + 1)).tab 36) ∧ Below W.heap.size W w' := by
  refine (compose_calls B A q p ⟨c.src, c.dst, arcsN (powG g k).tab 36⟩ c W ha hb (arcsN_ok _ _ (Nat.le_refl _)) hok).mono ?_
  rintro e w' ⟨v, rfl, ⟨u, rfl, hr⟩, hb'⟩
  refine ⟨u, rfl, ?_, hb'⟩
  have e1 := pow_next hg ht k
  have h2 : kAc.R 24 w' W.heap.size (fun _ => True) u (arcsN (comp (tabC (arcsN (powG g k).tab 36)) (tabC c.arcs)) 36) := hr
  rw [e1] at h2
  exact Kd.R_lower h2 hbase
set_option maxHeartbeats 4000000 in
set_option maxRecDepth 100000 in
theorem dref_calls (A : Option Addr) (cp : Nat) (c : Cl) (n : Int) (w : World) (h : kAc.C w A c.arcs.length c.arcs) :
    Calls Try.prog 21 #[.agg #[.string c.src, .string c.dst, .slice A c.arcs.length cp], .int .i64 n] w fun e w' => ∃ v, e = .returned (.tuple #[v, .int .i64 (descF c n).2]) ∧ IntsOut w' (descF c n).1 v ∧ Below w.heap.size w w' := by
  have hb0 := below_alloc (Below.refl w.heap.size w) (.cells #[.string c.src, .string c.dst, .slice A c.arcs.length cp] 34)
  have HB0 := Aside0.mk hb0
  have HVA := Aside0.mk (valid_calls A cp c _ (Kd.C_below h hb0))
  have HC0 : Aside0 (Blk (w.alloc (.cells #[.string c.src, .string c.dst, .slice A c.arcs.length cp] 34)) w.heap.size c A cp) := ⟨blk_new w _⟩
  have HRV := readC_val c
  have HCH := Aside0.mk h
  clear hb0
  cases hv : valC c with
  | false =>
    have HR := Aside0.mk (descF_none (n := n) (show readC c = none by rw [HRV, hv]; rfl))
    rw [hv] at HVA
    clear HRV hv h
    go_enter Try.func21, Try.ntmps21
    go_wp2_with (go_at_call 48; refine HVA.out.mono ?_; rintro e w1 ⟨rfl, hb1⟩; have HBW := Aside0.mk (below_step HB0.out hb1); have HC := Aside0.mk (HC0.out.go hb1); clear HVA hb1)
    go_ret2
    exact ⟨.slice none 0 0, by rw [HR.out]; rfl, by rw [HR.out]; exact IntsOut.nil _, HBW.out⟩
  | true =>
    have hrd : readC c = some ⟨c.src, c.dst, tabC c.arcs⟩ := by rw [HRV, hv]; rfl
    have HF := descF_some (n := n) hrd
    have hok := arcs_ok hv
    obtain ⟨g, hg⟩ : ∃ g, g = (⟨c.src, c.dst, tabC c.arcs⟩ : Gr) := ⟨_, rfl⟩
    rw [← hg] at HF hrd
    have HGT := Aside0.mk (readC_tab hrd)
    have HG := Aside0.mk hg
    have HOK := Aside0.mk hok
    have HNO := Aside0.mk (fun (W : World) (hb : Below w.heap.size w W) => normal_calls A cp c W (Kd.C_below h hb) hok)
    have hs : g.src = c.src ∧ g.dst = c.dst := by rw [hg]; exact ⟨rfl, rfl⟩
    rw [hs.1, hs.2] at HF
    rw [hv] at HVA
    clear HRV hv h hrd hg hok hs
    by_cases he : c.src = c.dst
    · have e2 : (c.src.toList == c.dst.toList) = true := by rw [he]; exact beq_self_eq_true _
      have e1 : (c.src == c.dst) = true := (beq_toListBytes _ _).trans e2
      have n1 : (c.src != c.dst) = false := by rw [bne, e1]; rfl
      rw [if_pos he] at HF
      by_cases h1 : n < 1
      · have HR := Aside0.mk (HF.trans (if_pos (.inl h1)))
        have d1 : decide (n < 1) = true := decide_eq_true h1
        clear HF he h1
        go_enter Try.func21, Try.ntmps21
        go_wp2_with (go_at_call 48; refine HVA.out.mono ?_; rintro e w1 ⟨rfl, hb1⟩; have HBW := Aside0.mk (below_step HB0.out hb1); have HC := Aside0.mk (HC0.out.go hb1); clear HVA hb1; obtain ⟨y0, y1, y2⟩ := Blk.cells HC.out)
        go_ret2
        exact ⟨.slice none 0 0, by rw [HR.out]; rfl, by rw [HR.out]; exact IntsOut.nil _, HBW.out⟩
      have d1 : decide (n < 1) = false := decide_eq_false h1
      by_cases h2 : 1000 < n
      · have HR := Aside0.mk (HF.trans (if_pos (.inr h2)))
        have d2 : decide (1000 < n) = true := decide_eq_true h2
        clear HF he h1 h2
        go_enter Try.func21, Try.ntmps21
        go_wp2_with (go_at_call 48; refine HVA.out.mono ?_; rintro e w1 ⟨rfl, hb1⟩; have HBW := Aside0.mk (below_step HB0.out hb1); have HC := Aside0.mk (HC0.out.go hb1); clear HVA hb1; obtain ⟨y0, y1, y2⟩ := Blk.cells HC.out)
        go_ret2
        exact ⟨.slice none 0 0, by rw [HR.out]; rfl, by rw [HR.out]; exact IntsOut.nil _, HBW.out⟩
      have d2 : decide (1000 < n) = false := decide_eq_false h2
      have HR := Aside0.mk (HF.trans (if_neg (by omega)))
      obtain ⟨m, rfl⟩ : ∃ m : Nat, n = (m : Int) + 1 := ⟨n.toNat - 1, by omega⟩
      have HM := Aside0.mk (show m < 1000 by omega)
      have HMN := Aside0.mk (show ((m : Int) + 1).toNat - 1 = m by omega)
      have hb1 : (m : Int) ≤ 1000 := by omega
      have hb0 : (0 : Int) ≤ (m : Int) := by omega
      obtain ⟨zc, hzc⟩ : ∃ zc, zc = cI zeros := ⟨_, rfl⟩
      have HZR := Aside0.mk (zero95 zc hzc)
      have HZS := Aside0.mk (show zc.size = 36 by rw [hzc]; exact cI_size (by simp [zeros]))
      clear HF he h1 h2 hzc
      go_enter Try.func21, Try.ntmps21
      go_wp2_with (first | (go_at_call 48; refine HVA.out.mono ?_; rintro e w1 ⟨rfl, hb1⟩; have HBW := Aside0.mk (below_step HB0.out hb1); have HC := Aside0.mk (HC0.out.go hb1); clear HVA hb1; obtain ⟨y0, y1, y2⟩ := Blk.cells HC.out) | (go_at_call 43; refine (HNO.out _ HBW.out).mono ?_; rintro e w2 ⟨v2, rfl, ⟨u2, rfl, hr2⟩, hb2⟩; replace hr2 : kAc.R 24 w2 w.heap.size (fun _ => True) u2 (arcsN (powG g 0).tab 36) := (by rw [HG.out]; exact Kd.R_lower hr2 HBW.out.size); obtain ⟨D0, k0, ev2⟩ := Kd.R_slice hr2; subst ev2; have HR2 := Aside0.mk hr2; replace HBW := Aside0.mk (below_step HBW.out hb2); replace HC := Aside0.mk (HC.out.go hb2); clear hb2 hr2 y0 y1 y2 HNO))
      clear d1 d2 e1 e2 n1
      have HC1 := Aside0.mk (HC.out.go (below_alloc (Below.refl w2.heap.size w2) (.cells #[.string c.src, .string c.dst, .slice D0 (arcsN (powG g 0).tab 36).length k0] 34)))
      have HBW1 := Aside0.mk (below_step HBW.out (below_alloc (Below.refl w2.heap.size w2) (.cells #[.string c.src, .string c.dst, .slice D0 (arcsN (powG g 0).tab 36).length k0] 34)))
      have HR3 := Aside0.mk (Kd.R_below HR2.out (below_alloc (Below.refl w2.heap.size w2) (.cells #[.string c.src, .string c.dst, .slice D0 (arcsN (powG g 0).tab 36).length k0] 34)))
      have HD1 := Aside0.mk (blk_new w2 (.cells #[.string c.src, .string c.dst, .slice D0 (arcsN (powG g 0).tab 36).length k0] 34))
      have HNE := Aside0.mk (Ne.symm (new_ne HC.out))
      have HGE := Aside0.mk HBW.out.size
      have E0 : Aside0 (callG (Gr.mk c.src c.dst (tabC c.arcs)) = ⟨c.src, c.dst, arcsN (powG g 0).tab 36⟩) := ⟨by rw [HG.out]; rfl⟩
      rw [E0.out]
      clear HBW HC HR2 HC0 HB0
      generalize w2.alloc (.cells #[.string c.src, .string c.dst, .slice D0 (arcsN (powG g 0).tab 36).length k0] 34) = W3 at HC1 HBW1 HR3 HD1 ⊢
      generalize w2.heap.size = db at HD1 HNE HGE ⊢
      go_loopg [7] m (fun kq v7 w' => ∃ (i : Nat) (D : Option Addr) (k : Nat), v7 = .int .i64 ((i : Int) + 1) ∧ Aside0 (kq + i = m) ∧ Aside0 (Below w.heap.size w w') ∧ Aside0 (Blk w' w.heap.size c A cp) ∧ Aside0 (w'.heap[db]? = some (.cells #[.string c.src, .string c.dst, .slice D (arcsN (powG g i).tab 36).length k] 34 (0, 0))) ∧ Aside0 (kAc.R 24 w' w.heap.size (fun _ => True) (.slice D (arcsN (powG g i).tab 36).length k) (arcsN (powG g i).tab 36)))
      case atStart => exact ⟨0, D0, k0, rfl, ⟨rfl⟩, HBW1, HC1, HD1, HR3⟩
      case round =>
        clear HBW1 HC1 HD1 HR3
        obtain ⟨i, D, k, rfl, HK, HBW, HC, HD, HDR⟩ := hrel
        by_cases hlt : i < m
        · have hdx : decide ((i : Int) < (m : Int)) = true := decide_eq_true (by omega)
          have hdy : decide ((i : Int) + 1 < (m : Int) + 1) = true := decide_eq_true (by omega)
          have hib : wrap64 ((i : Int) + 1 + 1) = (i : Int) + 1 + 1 := by have := HM.out; unfold wrap64; omega
          have hib2 : (i : Int) < (m : Int) := by omega
          have hib0 : (0 : Int) ≤ (i : Int) := by omega
          have HLT := Aside0.mk hlt
          have HST := Aside0.mk (dstep_calls HG.out HGT.out HOK.out i (A := A) (p := cp) (q := k) HBW.out.size (Kd.R_reads' HDR.out).2.2 (Kd.C_below HCH.out HBW.out))
          obtain ⟨y0, y1, y2⟩ := Blk.cells HC.out
          have z0 := blk_at HD.out (k := 0) rfl
          have z1 := blk_at HD.out (k := 1) rfl
          have z2 := blk_at HD.out (k := 2) rfl
          generalize arcsN (powG g i).tab 36 = L at HD HDR HST z2
          go_wp2_with (first | (go_at_call 44; refine HST.out.mono ?_; rintro e w5 ⟨v5, rfl, hr5, hb5⟩; obtain ⟨D5, k5, ev5⟩ := Kd.R_slice hr5; subst ev5; have HR5 := Aside0.mk hr5; have HB5 := Aside0.mk hb5; clear hb5 hr5) | ((with_reducible refine gate_store (t := 34) (p := 6) rfl ?_); refine store_whole rfl rfl rfl db 34 _ #[.string c.src, .string c.dst, .slice D5 (arcsN (powG g (i + 1)).tab 36).length k5] (by rfl) (by rfl) (blk_below HD.out HB5.out) (by kernel_rfl) rfl (by simp [Value.oneCell']) ?_))
          go_roundg (m - i - 1)
          case measure => have := HK.out; omega
          case rel => exact ⟨i + 1, D5, k5, by go_num, ⟨by have := HK.out; have := HLT.out; omega⟩, ⟨row_step HBW.out HB5.out HGE.out⟩, ⟨row_other (HC.out.go HB5.out) HNE.out⟩, ⟨setRow_at _ db _ _ 34 (blk_below HD.out HB5.out)⟩, ⟨R_row HR5.out (blk_below HD.out HB5.out) (by decide) _⟩⟩
        · have hdx : decide ((i : Int) < (m : Int)) = false := decide_eq_false (by omega)
          have hdy : decide ((i : Int) + 1 < (m : Int) + 1) = false := decide_eq_false (by omega)
          have him : i = m := by have := HK.out; omega
          subst him
          have HTP := Aside0.mk (powG_tab HGT.out i)
          have HTB := Aside0.mk (show Calls Try.prog 49 #[.agg #[.string c.src, .string c.dst, .slice D (arcsN (powG g i).tab 36).length k]] wr fun e w' => e = .returned (.agg (cI (powG g i).tab)) ∧ Below wr.heap.size wr w' from by
            have h1 := tabled_calls D k ⟨c.src, c.dst, arcsN (powG g i).tab 36⟩ wr (Kd.R_reads' HDR.out).2.2 (arcsN_ok _ _ (Nat.le_refl _))
            have h2 : tabC (arcsN (powG g i).tab 36) = (powG g i).tab := tabC_arcsN HTP.out
            dsimp only at h1
            rw [h2] at h1
            exact h1)
          have z0 := blk_at HD.out (k := 0) rfl
          have z1 := blk_at HD.out (k := 1) rfl
          have z2 := blk_at HD.out (k := 2) rfl
          rw [HMN.out] at HR
          generalize arcsN (powG g i).tab 36 = L at HD HDR HTB z2
          generalize powG g i = qg at HTP HR HTB
          obtain ⟨t, ht⟩ : ∃ t, t = qg.tab := ⟨_, rfl⟩
          have HTL := Aside0.mk (show t.length = 36 by rw [ht]; exact HTP.out.len)
          rw [← ht] at HTB HR
          have HAT := Aside0.mk (fun j (hj : j < 6) => cI_at HTL.out hj hj)
          have HTS := Aside0.mk (cI_size HTL.out)
          have HT1 := Aside0.mk (cI_one t)
          generalize cI t = ct at HTB HAT HTS HT1
          clear ht HTP HK
          go_wp2_with (first | (go_at_call 49; refine HTB.out.mono ?_; rintro e w5 ⟨rfl, hb5⟩; have HB5 := Aside0.mk (below_step HBW.out hb5); clear hb5 HTB z0 z1 z2) | ((with_reducible refine gate_alloc (t := 95) rfl ?_); refine alloc_zero rfl rfl zc HZR.out ?_) | ((with_reducible refine gate_store (t := 95) (p := 8) rfl ?_); refine store_last rfl rfl rfl _ 95 zc ct (by rfl) (by rfl) rfl (by rw [HTS.out]; kernel_rfl) (HZS.out.trans HTS.out.symm) HT1.out ?_))
          clear hdx hdy hlt
          have HBT := Aside0.mk (below_step HB5.out (below_alloc (Below.refl w5.heap.size w5) (.cells ct 95)))
          have HT0 := Aside0.mk (blk_new w5 (.cells ct 95))
          clear HD HDR HC HBW HB5
          generalize w5.alloc (.cells ct 95) = W6 at HBT HT0 ⊢
          generalize w5.heap.size = tb at HT0 ⊢
          go_loopg [9, 10] 6 (fun kq v9 v10 w' => ∃ (j : Nat), v10 = .int .i64 (j : Int) ∧ Aside0 (kq + j = 6) ∧ Aside0 (Below w.heap.size w w') ∧ Aside0 (w'.heap[tb]? = some (.cells ct 95 (0, 0))) ∧ Aside0 ((Kd.int .i64).R 3 w' w.heap.size (fun _ => True) v9 (descL t j)))
          case atStart => exact ⟨0, rfl, ⟨rfl⟩, HBT, HT0, ⟨Kd.R_nil _ _ _ _ _⟩⟩
          case round =>
            clear HBT HT0
            obtain ⟨j, rfl, HK, HBW, HH, HV⟩ := hrel
            by_cases hlt : j < 6
            · have hdx : decide ((j : Int) < 6) = true := decide_eq_true (by omega)
              have hib : wrap64 ((j : Int) + 1) = (j : Int) + 1 := by unfold wrap64; omega
              have b1 : (j : Int) < 6 := by omega
              have b2 : (0 : Int) ≤ (j : Int) := by omega
              have HLT := Aside0.mk hlt
              have z0 := blk_at HH.out (HAT.out j hlt)
              have HDS := Aside0.mk (show descL t (j + 1) = if tat t j j = 2 then descL t j ++ [(j : Int)] else descL t j from rfl)
              generalize tat t j j = x at z0 HDS
              by_cases hx : x = 2
              · have HD2 := Aside0.mk (HDS.out.trans (if_pos hx))
                subst hx
                have HLD := Aside0.mk (show (descL t j).length ≤ 6 by have := descL_len t j; omega)
                clear HDS
                go_wp2_with (at_builtin; go_loud (refine Kd.R_append (Kd.int .i64) (w0 := w) (W := wr) w.heap.size rfl (.tmp 49) (.tmp 51) 36 3 (.int .i64 0) 8 rfl Try.underlying36 info3' (by rfl) (by decide) (by omega) u9 (descL t j) (j : Int) [.int .i64 (j : Int)] (fun _ => True) (fun k => True ∧ some k ≠ u9.ownBlock) rfl rfl rfl (fun _ hk => hk) (fun _ _ => trivial) HV.out HBW.out HBW.out.size (by have := HLD.out; omega) ?_; intro v1 w1 hr1 hb1 hg1 hat1; have HV1 := Aside0.mk hr1; have HB1 := Aside0.mk hb1; have HH1 := Aside0.mk (blk_grown HH.out hg1 (Kd.R_ne HV.out HH.out (by decide))); clear hr1 hb1 hg1 hat1))
                go_roundg (6 - j - 1)
                case measure => have := HK.out; omega
                case rel => exact ⟨j + 1, by go_num, ⟨by have := HK.out; have := HLT.out; omega⟩, HB1, HH1, ⟨by rw [HD2.out]; exact HV1.out⟩⟩
              · have HD2 := Aside0.mk (HDS.out.trans (if_neg hx))
                have hxe : (x == 2) = false := by simpa using hx
                clear HDS
                go_wp2
                go_roundg (6 - j - 1)
                case measure => have := HK.out; omega
                case rel => exact ⟨j + 1, by go_num, ⟨by have := HK.out; have := HLT.out; omega⟩, HBW, HH, ⟨by rw [HD2.out]; exact HV.out⟩⟩
            · have hdx : decide ((j : Int) < 6) = false := decide_eq_false (by omega)
              have hj6 : j = 6 := by have := HK.out; omega
              subst hj6
              obtain ⟨A9, c9, ev9, hle9, hc9⟩ := Kd.R_reads HV.out
              have HC9 := Aside0.mk hc9
              subst ev9
              clear hc9 HK
              go_wp2
              go_ret2
              exact ⟨_, by rw [HR.out]; rfl, by rw [HR.out]; exact ⟨A9, c9, rfl, HC9.out⟩, HBW.out⟩
    · have HR := Aside0.mk (HF.trans (if_neg he))
      have e2 : (c.src.toList == c.dst.toList) = false := beq_eq_false_iff_ne.mpr (fun e => he (bytes_inj e))
      have e1 : (c.src == c.dst) = false := (beq_toListBytes _ _).trans e2
      have n1 : (c.src != c.dst) = true := by rw [bne, e1]; rfl
      clear HF he
      go_enter Try.func21, Try.ntmps21
      go_wp2_with (go_at_call 48; refine HVA.out.mono ?_; rintro e w1 ⟨rfl, hb1⟩; have HBW := Aside0.mk (below_step HB0.out hb1); have HC := Aside0.mk (HC0.out.go hb1); clear HVA hb1; obtain ⟨y0, y1, y2⟩ := Blk.cells HC.out)
      go_ret2
      exact ⟨.slice none 0 0, by rw [HR.out]; rfl, by rw [HR.out]; exact IntsOut.nil _, HBW.out⟩
set_option maxHeartbeats 4000000 in
set_option maxRecDepth 100000 in
theorem descends_law (A : Option Addr) (cp : Nat) (c : Cl) (n : Int) (w : World) (hn : c.arcs.length ≤ cp) (h : kAc.C w A c.arcs.length c.arcs) :
    Calls Try.prog 6 #[.agg #[.string c.src, .string c.dst, .slice A c.arcs.length cp], .int .i64 n] w fun e w' => e = .returned (.bool true) ∧ Below w.heap.size w w' := by
  have HB0 := Aside0.mk (below_alloc (Below.refl w.heap.size w) (.cells #[.string c.src, .string c.dst, .slice A c.arcs.length cp] 34))
  have HC0 : Aside0 (Blk (w.alloc (.cells #[.string c.src, .string c.dst, .slice A c.arcs.length cp] 34)) w.heap.size c A cp) := ⟨blk_new w _⟩
  have HX := Aside0.mk (bigCall_calls A cp c (w.alloc (.cells #[.string c.src, .string c.dst, .slice A c.arcs.length cp] 34)))
  cases h1 : bigC c with
  | true =>
    rw [h1] at HX
    clear h1 h hn
    go_enter Try.func6, Try.ntmps6
    go_wp2_with (first | (go_at_call 17; refine HX.out.mono ?_; rintro e w1 ⟨rfl, hb1⟩; have HB1 := Aside0.mk (below_step HB0.out hb1); clear hb1 HX) | (go_at_call 12; refine (awake_calls _).mono ?_; rintro e wz ⟨rfl, hbz⟩; have HZ := Aside0.mk (below_step HB1.out hbz); clear hbz))
    go_ret
    exact ⟨rfl, HZ.out⟩
  | false =>
    rw [h1] at HX
    have HP := Aside0.mk (fun (W : World) (hb : Below w.heap.size w W) => dprog_calls A cp c n W (Kd.C_below h hb) (arcs_of h1))
    have HS := Aside0.mk (fun (W : World) (hb : Below w.heap.size w W) => dref_calls A cp c n W (Kd.C_below h hb))
    clear h1 h hn
    generalize descF c n = r at HP HS
    obtain ⟨l, y⟩ := r
    dsimp only at HP HS
    go_enter Try.func6, Try.ntmps6
    go_wp2_with (first | (go_at_call 17; refine HX.out.mono ?_; rintro e w1 ⟨rfl, hb1⟩; have HB1 := Aside0.mk (below_step HB0.out hb1); obtain ⟨y0, y1, y2⟩ := Blk.cells (HC0.out.go hb1); have HC1 := Aside0.mk (HC0.out.go hb1); clear hb1 HX) | (go_at_call 20; refine (HP.out _ HB1.out).mono ?_; rintro e w2 ⟨v2, rfl, ⟨A2, c2, rfl, hi2⟩, hb2⟩; have HI2 := Aside0.mk hi2; have HB2 := Aside0.mk (below_step HB1.out hb2); clear y0 y1 y2; obtain ⟨y0, y1, y2⟩ := Blk.cells (HC1.out.go hb2); clear hb2 hi2 HP) | (go_at_call 21; refine (HS.out _ HB2.out).mono ?_; rintro e w3 ⟨v3, rfl, ⟨A3, c3, rfl, hi3⟩, hb3⟩; have HB3 := Aside0.mk (below_step HB2.out hb3); have HE := Aside0.mk (eqi_calls A2 A3 c2 c3 l w3 (Kd.C_below HI2.out hb3) hi3); clear y0 y1 y2 hb3 hi3 HS) | (go_at_call 22; refine HE.out.mono ?_; rintro e w4 ⟨rfl, hb4⟩; have HB4 := Aside0.mk (below_step HB3.out hb4); clear hb4) | (go_at_call 12; refine (awake_calls _).mono ?_; rintro e wz ⟨rfl, hbz⟩; have HZ := Aside0.mk (below_step HB4.out hbz); clear hbz))
    go_ret
    exact ⟨rfl, HZ.out⟩
end Go.Proofs.Ytiepinfcndefhaa.S
