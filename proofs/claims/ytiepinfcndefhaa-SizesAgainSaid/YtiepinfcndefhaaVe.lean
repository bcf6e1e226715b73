/- The reference's Bad: the walk. No condition. -/
import Derived.Test.YtiepinfcndefhaaVd
import Derived.Test.YtiepinfcndefhaaUe
namespace Go.Proofs.Ytiepinfcndefhaa.S
open Go.RowKit Go.Proofs.YtiepinfcndefhaaW.PrintWords Go.Proofs.YtiepinfcndefhaaW.PrintLast Go.Proofs.YtiepinfcndefhaaW.PrintMore
set_option linter.unusedVariables false
set_option linter.unusedSimpArgs false

theorem CallOut_low {w : World} {base base' : Nat} {d : Cl} {v : Value} (h : CallOut w base d v) (hb : base' ≤ base) : CallOut w base' d v := by
  obtain ⟨u, h1, h2⟩ := h
  exact ⟨u, h1, Kd.R_lower h2 hb⟩
/-- A call that leads back, is itself when composed with itself, and makes nothing smaller: the reference's way of asking. -/
def rbadF (c : Cl) : Bool := decide (c.src = c.dst) && (eqC (callG ⟨c.src, c.dst, comp (tabC c.arcs) (tabC c.arcs)⟩) (callG ⟨c.src, c.dst, tabC c.arcs⟩) && !descB ⟨c.src, c.dst, tabC c.arcs⟩)
set_option maxHeartbeats 4000000 in
set_option maxRecDepth 100000 in
theorem rbad_calls (A : Option Addr) (cp : Nat) (c : Cl) (w : World) (h : kAc.C w A c.arcs.length c.arcs) (hok : c.arcs.all okA = true) :
    Calls Try.prog 41 #[.agg #[.string c.src, .string c.dst, .slice A c.arcs.length cp]] w fun e w' => e = .returned (.bool (rbadF c)) ∧ Below w.heap.size w w' := by
  have HC : Aside0 (Blk (w.alloc (.cells #[.string c.src, .string c.dst, .slice A c.arcs.length cp] 34)) w.heap.size c A cp) := ⟨blk_new w _⟩
  have HB0 : Aside0 (Below w.heap.size w (w.alloc (.cells #[.string c.src, .string c.dst, .slice A c.arcs.length cp] 34))) := ⟨below_alloc (Below.refl _ _) _⟩
  have HCO := Aside0.mk (fun (W : World) (hb : Below w.heap.size w W) => compose_calls A A cp cp c c W (Kd.C_below h hb) (Kd.C_below h hb) hok hok)
  have HNO := Aside0.mk (fun (W : World) (hb : Below w.heap.size w W) => normal_calls A cp c W (Kd.C_below h hb) hok)
  have HTB := Aside0.mk (fun (W : World) (hb : Below w.heap.size w W) => tabled_calls A cp c W (Kd.C_below h hb) hok)
  have HRF := Aside0.mk (show rbadF c = (decide (c.src = c.dst) && (eqC (callG ⟨c.src, c.dst, comp (tabC c.arcs) (tabC c.arcs)⟩) (callG ⟨c.src, c.dst, tabC c.arcs⟩) && !descB ⟨c.src, c.dst, tabC c.arcs⟩)) from rfl)
  obtain ⟨t, ht⟩ : ∃ t, t = tabC c.arcs := ⟨_, rfl⟩
  have HTL := Aside0.mk (show t.length = 36 by rw [ht]; exact tabC_len _)
  rw [← ht] at HCO HNO HTB HRF
  generalize callG ⟨c.src, c.dst, comp t t⟩ = cc at HCO HRF
  generalize callG ⟨c.src, c.dst, t⟩ = cn at HNO HRF
  clear h hok ht
  by_cases hsd : c.src = c.dst
  · have e2 : (c.src.toList == c.dst.toList) = true := by rw [hsd]; exact beq_self_eq_true _
    have e1 : (c.src == c.dst) = true := (beq_toListBytes _ _).trans e2
    have n1 : (c.src != c.dst) = false := by rw [bne, e1]; rfl
    have HR1 := Aside0.mk (show rbadF c = (eqC cc cn && !descB ⟨c.src, c.dst, t⟩) by rw [HRF.out, decide_eq_true hsd, Bool.true_and])
    clear hsd HRF
    go_enter Try.func41, Try.ntmps41
    go_wp2
    generalize w.alloc (.cells #[.string c.src, .string c.dst, .slice A c.arcs.length cp] 34) = W0 at HC HB0 ⊢
    refine start_ (n := 14) (S := fun w' => Below W0.heap.size W0 w') (ds := []) #[false, false, false, false, false, false, false, false, false, false, false, false, false, false] (by kernel_rfl) rfl rfl (below_drew1 (Below.refl _ _)) (fun hHeld => ?_)
    refine pure_ (i := 0) (N := some 5) (v := ?_) (a' := ?_) #[true, false, false, false, false, false, false, false, false, false, false, false, false, false] rfl rfl (by kernel_rfl) (fun _ _ _ h => h) (Or.inl ⟨by rfl, ?_⟩) ?_ ?_
    rotate_left
    · intro w'
      go_simp
      with_reducible rfl
    rotate_left
    · simp only [Act.put, List.setIfInBounds_toArray, List.set_cons_zero, List.set_cons_succ, i64_w, i32_w]
      rfl
    refine take_ (i := 1) (N := some 6) (v := ?_) (a' := ?_) #[true, true, false, false, false, false, false, false, false, false, false, false, false, false] rfl rfl (by kernel_rfl) (fun _ _ _ h => h) (Or.inl ⟨by rfl, ?_⟩) hHeld ?_ ?_
    rotate_left
    · rintro w' s0
      obtain ⟨y0, y1, y2⟩ := Blk.cells (HC.out.go s0)
      go_simp
      with_reducible rfl
    rotate_left
    · simp only [Act.put, List.setIfInBounds_toArray, List.set_cons_zero, List.set_cons_succ, i64_w, i32_w]
      rfl
    refine pure_ (i := 2) (N := some 7) (v := ?_) (a' := ?_) #[true, true, true, false, false, false, false, false, false, false, false, false, false, false] rfl rfl (by kernel_rfl) (fun _ _ _ h => h) (Or.inl ⟨by rfl, ?_⟩) ?_ ?_
    rotate_left
    · intro w'
      go_simp
      with_reducible rfl
    rotate_left
    · simp only [Act.put, List.setIfInBounds_toArray, List.set_cons_zero, List.set_cons_succ, i64_w, i32_w]
      rfl
    refine take_ (i := 3) (N := some 8) (v := ?_) (a' := ?_) #[true, true, true, true, false, false, false, false, false, false, false, false, false, false] rfl rfl (by kernel_rfl) (fun _ _ _ h => h) (Or.inl ⟨by rfl, ?_⟩) hHeld ?_ ?_
    rotate_left
    · rintro w' s0
      obtain ⟨y0, y1, y2⟩ := Blk.cells (HC.out.go s0)
      go_simp
      with_reducible rfl
    rotate_left
    · simp only [Act.put, List.setIfInBounds_toArray, List.set_cons_zero, List.set_cons_succ, i64_w, i32_w]
      rfl
    refine pure_ (i := 4) (N := some 9) (v := ?_) (a' := ?_) #[true, true, true, true, true, false, false, false, false, false, false, false, false, false] rfl rfl (by kernel_rfl) (fun _ _ _ h => h) (Or.inl ⟨by rfl, ?_⟩) ?_ ?_
    rotate_left
    · intro w'
      go_simp
      with_reducible rfl
    rotate_left
    · simp only [Act.put, List.setIfInBounds_toArray, List.set_cons_zero, List.set_cons_succ, i64_w, i32_w]
      rfl
    refine pure_ (i := 5) (N := some 10) (v := ?_) (a' := ?_) #[true, true, true, true, true, true, false, false, false, false, false, false, false, false] rfl rfl (by kernel_rfl) (fun _ _ _ h => h) (Or.inl ⟨by rfl, ?_⟩) ?_ ?_
    rotate_left
    · intro w'
      go_simp
      with_reducible rfl
    rotate_left
    · simp only [Act.put, List.setIfInBounds_toArray, List.set_cons_zero, List.set_cons_succ, i64_w, i32_w]
      rfl
    refine take_ (i := 6) (N := some 11) (v := ?_) (a' := ?_) #[true, true, true, true, true, true, true, false, false, false, false, false, false, false] rfl rfl (by kernel_rfl) (fun _ _ _ h => h) (Or.inl ⟨by rfl, ?_⟩) hHeld ?_ ?_
    rotate_left
    · rintro w' s0
      obtain ⟨y0, y1, y2⟩ := Blk.cells (HC.out.go s0)
      go_simp
      with_reducible rfl
    rotate_left
    · simp only [Act.put, List.setIfInBounds_toArray, List.set_cons_zero, List.set_cons_succ, i64_w, i32_w]
      rfl
    refine take_ (i := 7) (N := some 12) (v := ?_) (a' := ?_) #[true, true, true, true, true, true, true, true, false, false, false, false, false, false] rfl rfl (by kernel_rfl) (fun _ _ _ h => h) (Or.inl ⟨by rfl, ?_⟩) hHeld ?_ ?_
    rotate_left
    · rintro w' s0
      obtain ⟨y0, y1, y2⟩ := Blk.cells (HC.out.go s0)
      go_simp
      with_reducible rfl
    rotate_left
    · simp only [Act.put, List.setIfInBounds_toArray, List.set_cons_zero, List.set_cons_succ, i64_w, i32_w]
      rfl
    refine take_ (i := 9) (N := some 14) (v := ?_) (a' := ?_) #[true, true, true, true, true, true, true, true, false, true, false, false, false, false] rfl rfl (by kernel_rfl) (fun _ _ _ h => h) (Or.inl ⟨by rfl, ?_⟩) hHeld ?_ ?_
    rotate_left
    · rintro w' s0
      obtain ⟨y0, y1, y2⟩ := Blk.cells (HC.out.go s0)
      go_simp
      with_reducible rfl
    rotate_left
    · simp only [Act.put, List.setIfInBounds_toArray, List.set_cons_zero, List.set_cons_succ, i64_w, i32_w]
      rfl
    refine one_ (i := 8) (N := some 13) #[true, true, true, true, true, true, true, true, true, true, false, false, false, false] rfl rfl (by kernel_rfl) (by decide) (fun K hK => ?_)
    refine goes_ Try.func44 (by kernel_rfl) rfl #[.agg #[.string c.src, .string c.dst, .slice A c.arcs.length cp], .agg #[.string c.src, .string c.dst, .slice A c.arcs.length cp]] (by rfl) rfl rfl (by (try simp only [List.map_toArray, List.map_cons, List.map_nil]); first | done | rfl) ?_
    refine (HCO.out _ (below_step HB0.out hHeld)).mono ?_
    rintro e2 w11 ⟨v8, rfl, hov8, hb3⟩
    refine ⟨_, rfl, ?_⟩
    have hB := below_step hHeld hb3
    replace hov8 := CallOut_low hov8 (below_step HB0.out hHeld).size
    refine hK.out _ _ hB (fun _ => ?_)
    clear hK K hHeld hb3
    have hHeld := hB
    clear hB
    obtain ⟨u8, rfl, hr8⟩ := hov8
    obtain ⟨A8, c8, rfl⟩ := Kd.R_slice hr8
    refine norm_ (a' := ?_) ?_ ?_
    rotate_left
    · show Act.put _ (some 13) _ = _
      simp only [Act.put, List.setIfInBounds_toArray, List.set_cons_zero, List.set_cons_succ, i64_w, i32_w]
      rfl
    refine one_ (i := 10) (N := some 15) #[true, true, true, true, true, true, true, true, true, true, true, false, false, false] rfl rfl (by kernel_rfl) (by decide) (fun K hK => ?_)
    refine goes_ Try.func43 (by kernel_rfl) rfl #[.agg #[.string c.src, .string c.dst, .slice A c.arcs.length cp]] (by rfl) rfl rfl (by (try simp only [List.map_toArray, List.map_cons, List.map_nil]); first | done | rfl) ?_
    refine (HNO.out _ (below_step HB0.out hHeld)).mono ?_
    rintro e2 w12 ⟨v10, rfl, hov10, hb3⟩
    refine ⟨_, rfl, ?_⟩
    have hB := below_step hHeld hb3
    replace hov10 := CallOut_low hov10 (below_step HB0.out hHeld).size
    refine hK.out _ _ hB (fun _ => ?_)
    replace hr8 := Kd.R_below hr8 hb3; clear hK K hHeld hb3
    have hHeld := hB
    clear hB
    obtain ⟨u10, rfl, hr10⟩ := hov10
    obtain ⟨A10, c10, rfl⟩ := Kd.R_slice hr10
    refine norm_ (a' := ?_) ?_ ?_
    rotate_left
    · show Act.put _ (some 15) _ = _
      simp only [Act.put, List.setIfInBounds_toArray, List.set_cons_zero, List.set_cons_succ, i64_w, i32_w]
      rfl
    refine one_ (i := 11) (N := some 16) #[true, true, true, true, true, true, true, true, true, true, true, true, false, false] rfl rfl (by kernel_rfl) (by decide) (fun K hK => ?_)
    refine goes_ Try.func19 (by kernel_rfl) rfl #[.agg #[.string cc.src, .string cc.dst, .slice A8 cc.arcs.length c8], .agg #[.string cn.src, .string cn.dst, .slice A10 cn.arcs.length c10]] (by rfl) rfl rfl (by (try simp only [List.map_toArray, List.map_cons, List.map_nil]); first | done | rfl) ?_
    refine (eq_calls A8 A10 c8 c10 cc cn _ (Kd.R_reads' hr8).2.2 (Kd.R_reads' hr10).2.2).mono ?_
    rintro e2 w6 ⟨rfl, hb3⟩
    refine ⟨_, rfl, ?_⟩
    have hB := below_step hHeld hb3
    refine hK.out _ _ hB (fun _ => ?_)
    clear hK K hHeld hb3 hr8 hr10
    have hHeld := hB
    clear hB
    refine norm_ (a' := ?_) ?_ ?_
    rotate_left
    · show Act.put _ (some 16) _ = _
      simp only [Act.put, List.setIfInBounds_toArray, List.set_cons_zero, List.set_cons_succ, i64_w, i32_w]
      rfl
    refine pure_ (i := 12) (N := some 17) (v := ?_) (a' := ?_) #[true, true, true, true, true, true, true, true, true, true, true, true, true, false] rfl rfl (by kernel_rfl) (fun _ _ _ h => h) (Or.inl ⟨by rfl, ?_⟩) ?_ ?_
    rotate_left
    · intro w'
      go_simp
      with_reducible rfl
    rotate_left
    · simp only [Act.put, List.setIfInBounds_toArray, List.set_cons_zero, List.set_cons_succ, i64_w, i32_w]
      rfl
    refine pure_ (i := 13) (N := some 18) (v := ?_) (a' := ?_) #[true, true, true, true, true, true, true, true, true, true, true, true, true, true] rfl rfl (by kernel_rfl) (fun _ _ _ h => h) (Or.inl ⟨by rfl, ?_⟩) ?_ ?_
    rotate_left
    · intro w'
      go_simp
      with_reducible rfl
    rotate_left
    · simp only [Act.put, List.setIfInBounds_toArray, List.set_cons_zero, List.set_cons_succ, i64_w, i32_w]
      rfl
    refine done_ (by kernel_rfl) ?_
    have HH := Aside0.mk hHeld
    clear e1 e2 n1
    generalize hbq : eqC cc cn = bq at HR1
    cases bq with
    | false =>
      go_wp2
      go_ret
      exact ⟨by rw [HR1.out]; rfl, below_step HB0.out HH.out⟩
    | true =>
      have HR2 := Aside0.mk (HR1.out.trans (Bool.true_and _))
      obtain ⟨zc, hzc⟩ : ∃ z, z = cI zeros := ⟨_, rfl⟩
      have HZR := Aside0.mk (zero95 zc hzc)
      have HZS := Aside0.mk (show zc.size = 36 by rw [hzc]; exact cI_size (by simp [zeros]))
      clear hzc
      have HAT := Aside0.mk (fun j (hj : j < 6) => cI_at HTL.out hj hj)
      have HTS := Aside0.mk (cI_size HTL.out)
      have HT1 := Aside0.mk (cI_one t)
      generalize cI t = ct at HTB HAT HTS HT1
      obtain ⟨y0, y1, y2⟩ := Blk.cells (HC.out.go HH.out)
      go_wp2_with (first | (go_at_call 49; refine (HTB.out _ (below_step HB0.out HH.out)).mono ?_; rintro e w7 ⟨rfl, hb7⟩; have HH7 := Aside0.mk (below_step HH.out hb7); clear hb7 HTB y0 y1 y2) | ((with_reducible refine gate_alloc (t := 95) rfl ?_); refine alloc_zero rfl rfl zc HZR.out ?_) | ((with_reducible refine gate_store (t := 95) (p := 3) rfl ?_); refine store_last rfl rfl rfl _ 95 zc ct (by rfl) (by rfl) rfl (by rw [HTS.out]; kernel_rfl) (HZS.out.trans HTS.out.symm) HT1.out ?_))
      have HBT := Aside0.mk (below_step (below_step HB0.out HH7.out) (below_alloc (Below.refl w7.heap.size w7) (.cells ct 95)))
      have HT0 := Aside0.mk (blk_new w7 (.cells ct 95))
      clear HH HH7 HC HB0
      generalize w7.alloc (.cells ct 95) = W6 at HBT HT0 ⊢
      generalize w7.heap.size = tb at HT0 ⊢
      go_loopg [4] 6 (fun kq v4 w' => ∃ (j : Nat), v4 = .int .i64 (j : Int) ∧ Aside0 (kq + j = 6) ∧ Aside0 (∀ i, i < j → tat t i i ≠ 2) ∧ Aside0 (Below w.heap.size w w') ∧ Aside0 (w'.heap[tb]? = some (.cells ct 95 (0, 0))))
      case atStart => exact ⟨0, rfl, ⟨rfl⟩, ⟨fun i hi => absurd hi (by omega)⟩, HBT, HT0⟩
      case round =>
        clear HBT HT0
        obtain ⟨j, rfl, HK, HN, HBW, HH⟩ := hrel
        by_cases hlt : j < 6
        · have hdx : decide ((j : Int) < 6) = true := decide_eq_true (by omega)
          have hib : wrap64 ((j : Int) + 1) = (j : Int) + 1 := by unfold wrap64; omega
          have b1 : (j : Int) < 6 := by omega
          have b2 : (0 : Int) ≤ (j : Int) := by omega
          have HLT := Aside0.mk hlt
          have z0 := blk_at HH.out (HAT.out j hlt)
          by_cases h2 : tat t j j = 2
          · have hxe : (tat t j j == 2) = true := beq_iff_eq.mpr h2
            have HR := Aside0.mk (descB_true (g := ⟨c.src, c.dst, t⟩) hlt h2)
            clear h2
            go_wp2
            go_ret
            exact ⟨by rw [HR2.out, HR.out]; rfl, HBW.out⟩
          · have hxe : (tat t j j == 2) = false := beq_eq_false_iff_ne.mpr h2
            have HN2 := Aside0.mk (show ∀ i, i < j + 1 → tat t i i ≠ 2 from fun i hi => by
              by_cases e : i = j
              · subst e; exact h2
              · exact HN.out i (by omega))
            clear h2
            go_wp2
            go_roundg (6 - j - 1)
            case measure => have := HK.out; omega
            case rel => exact ⟨j + 1, by go_num, ⟨by have := HK.out; have := HLT.out; omega⟩, HN2, HBW, HH⟩
        · have hdx : decide ((j : Int) < 6) = false := decide_eq_false (by omega)
          have HR := Aside0.mk (descB_false (g := ⟨c.src, c.dst, t⟩) (fun i hi => HN.out i (by have := HK.out; omega)))
          go_wp2
          go_ret
          exact ⟨by rw [HR2.out, HR.out]; rfl, HBW.out⟩
  · have e2 : (c.src.toList == c.dst.toList) = false := beq_eq_false_iff_ne.mpr (fun e => hsd (bytes_inj e))
    have e1 : (c.src == c.dst) = false := (beq_toListBytes _ _).trans e2
    have n1 : (c.src != c.dst) = true := by rw [bne, e1]; rfl
    have HR1 := Aside0.mk (show rbadF c = false by rw [HRF.out, decide_eq_false hsd, Bool.false_and])
    clear hsd HRF
    go_enter Try.func41, Try.ntmps41
    go_wp2
    generalize w.alloc (.cells #[.string c.src, .string c.dst, .slice A c.arcs.length cp] 34) = W0 at HC HB0 ⊢
    refine start_ (n := 14) (S := fun w' => Below W0.heap.size W0 w') (ds := []) #[false, false, false, false, false, false, false, false, false, false, false, false, false, false] (by kernel_rfl) rfl rfl (below_drew1 (Below.refl _ _)) (fun hHeld => ?_)
    refine pure_ (i := 0) (N := some 5) (v := ?_) (a' := ?_) #[true, false, false, false, false, false, false, false, false, false, false, false, false, false] rfl rfl (by kernel_rfl) (fun _ _ _ h => h) (Or.inl ⟨by rfl, ?_⟩) ?_ ?_
    rotate_left
    · intro w'
      go_simp
      with_reducible rfl
    rotate_left
    · simp only [Act.put, List.setIfInBounds_toArray, List.set_cons_zero, List.set_cons_succ, i64_w, i32_w]
      rfl
    refine take_ (i := 1) (N := some 6) (v := ?_) (a' := ?_) #[true, true, false, false, false, false, false, false, false, false, false, false, false, false] rfl rfl (by kernel_rfl) (fun _ _ _ h => h) (Or.inl ⟨by rfl, ?_⟩) hHeld ?_ ?_
    rotate_left
    · rintro w' s0
      obtain ⟨y0, y1, y2⟩ := Blk.cells (HC.out.go s0)
      go_simp
      with_reducible rfl
    rotate_left
    · simp only [Act.put, List.setIfInBounds_toArray, List.set_cons_zero, List.set_cons_succ, i64_w, i32_w]
      rfl
    refine pure_ (i := 2) (N := some 7) (v := ?_) (a' := ?_) #[true, true, true, false, false, false, false, false, false, false, false, false, false, false] rfl rfl (by kernel_rfl) (fun _ _ _ h => h) (Or.inl ⟨by rfl, ?_⟩) ?_ ?_
    rotate_left
    · intro w'
      go_simp
      with_reducible rfl
    rotate_left
    · simp only [Act.put, List.setIfInBounds_toArray, List.set_cons_zero, List.set_cons_succ, i64_w, i32_w]
      rfl
    refine take_ (i := 3) (N := some 8) (v := ?_) (a' := ?_) #[true, true, true, true, false, false, false, false, false, false, false, false, false, false] rfl rfl (by kernel_rfl) (fun _ _ _ h => h) (Or.inl ⟨by rfl, ?_⟩) hHeld ?_ ?_
    rotate_left
    · rintro w' s0
      obtain ⟨y0, y1, y2⟩ := Blk.cells (HC.out.go s0)
      go_simp
      with_reducible rfl
    rotate_left
    · simp only [Act.put, List.setIfInBounds_toArray, List.set_cons_zero, List.set_cons_succ, i64_w, i32_w]
      rfl
    refine pure_ (i := 4) (N := some 9) (v := ?_) (a' := ?_) #[true, true, true, true, true, false, false, false, false, false, false, false, false, false] rfl rfl (by kernel_rfl) (fun _ _ _ h => h) (Or.inl ⟨by rfl, ?_⟩) ?_ ?_
    rotate_left
    · intro w'
      go_simp
      with_reducible rfl
    rotate_left
    · simp only [Act.put, List.setIfInBounds_toArray, List.set_cons_zero, List.set_cons_succ, i64_w, i32_w]
      rfl
    refine pure_ (i := 5) (N := some 10) (v := ?_) (a' := ?_) #[true, true, true, true, true, true, false, false, false, false, false, false, false, false] rfl rfl (by kernel_rfl) (fun _ _ _ h => h) (Or.inl ⟨by rfl, ?_⟩) ?_ ?_
    rotate_left
    · intro w'
      go_simp
      with_reducible rfl
    rotate_left
    · simp only [Act.put, List.setIfInBounds_toArray, List.set_cons_zero, List.set_cons_succ, i64_w, i32_w]
      rfl
    refine pure_ (i := 6) (N := some 11) (v := undef) (a' := ?_) #[true, true, true, true, true, true, true, false, false, false, false, false, false, false] rfl rfl (by kernel_rfl) (fun _ _ _ h => h) (Or.inr ⟨by rfl, rfl⟩) ?_ ?_
    rotate_left
    · simp only [Act.put, List.setIfInBounds_toArray, List.set_cons_zero, List.set_cons_succ, i64_w, i32_w]
      rfl
    refine pure_ (i := 7) (N := some 12) (v := undef) (a' := ?_) #[true, true, true, true, true, true, true, true, false, false, false, false, false, false] rfl rfl (by kernel_rfl) (fun _ _ _ h => h) (Or.inr ⟨by rfl, rfl⟩) ?_ ?_
    rotate_left
    · simp only [Act.put, List.setIfInBounds_toArray, List.set_cons_zero, List.set_cons_succ, i64_w, i32_w]
      rfl
    refine pure_ (i := 8) (N := some 13) (v := undef) (a' := ?_) #[true, true, true, true, true, true, true, true, true, false, false, false, false, false] rfl rfl (by kernel_rfl) (fun _ _ _ h => h) (Or.inr ⟨by rfl, rfl⟩) ?_ ?_
    rotate_left
    · simp only [Act.put, List.setIfInBounds_toArray, List.set_cons_zero, List.set_cons_succ, i64_w, i32_w]
      rfl
    refine pure_ (i := 9) (N := some 14) (v := undef) (a' := ?_) #[true, true, true, true, true, true, true, true, true, true, false, false, false, false] rfl rfl (by kernel_rfl) (fun _ _ _ h => h) (Or.inr ⟨by rfl, rfl⟩) ?_ ?_
    rotate_left
    · simp only [Act.put, List.setIfInBounds_toArray, List.set_cons_zero, List.set_cons_succ, i64_w, i32_w]
      rfl
    refine pure_ (i := 10) (N := some 15) (v := undef) (a' := ?_) #[true, true, true, true, true, true, true, true, true, true, true, false, false, false] rfl rfl (by kernel_rfl) (fun _ _ _ h => h) (Or.inr ⟨by rfl, rfl⟩) ?_ ?_
    rotate_left
    · simp only [Act.put, List.setIfInBounds_toArray, List.set_cons_zero, List.set_cons_succ, i64_w, i32_w]
      rfl
    refine pure_ (i := 11) (N := some 16) (v := undef) (a' := ?_) #[true, true, true, true, true, true, true, true, true, true, true, true, false, false] rfl rfl (by kernel_rfl) (fun _ _ _ h => h) (Or.inr ⟨by rfl, rfl⟩) ?_ ?_
    rotate_left
    · simp only [Act.put, List.setIfInBounds_toArray, List.set_cons_zero, List.set_cons_succ, i64_w, i32_w]
      rfl
    refine pure_ (i := 12) (N := some 17) (v := undef) (a' := ?_) #[true, true, true, true, true, true, true, true, true, true, true, true, true, false] rfl rfl (by kernel_rfl) (fun _ _ _ h => h) (Or.inr ⟨by rfl, rfl⟩) ?_ ?_
    rotate_left
    · simp only [Act.put, List.setIfInBounds_toArray, List.set_cons_zero, List.set_cons_succ, i64_w, i32_w]
      rfl
    refine pure_ (i := 13) (N := some 18) (v := ?_) (a' := ?_) #[true, true, true, true, true, true, true, true, true, true, true, true, true, true] rfl rfl (by kernel_rfl) (fun _ _ _ h => h) (Or.inl ⟨by rfl, ?_⟩) ?_ ?_
    rotate_left
    · intro w'
      go_simp
      with_reducible rfl
    rotate_left
    · simp only [Act.put, List.setIfInBounds_toArray, List.set_cons_zero, List.set_cons_succ, i64_w, i32_w]
      rfl
    refine done_ (by kernel_rfl) ?_
    have HH := Aside0.mk hHeld
    go_wp2
    go_ret
    exact ⟨by rw [HR1.out]; rfl, below_step HB0.out HH.out⟩
end Go.Proofs.Ytiepinfcndefhaa.S
