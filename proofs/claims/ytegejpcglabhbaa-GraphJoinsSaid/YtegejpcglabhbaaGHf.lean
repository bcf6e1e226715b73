/- Hand-made contracts: graph.follows, graph.Follows. -/
import Derived.Test.YtegejpcglabhbaaGHs
namespace Go.Proofs.Ytegejpcglabhbaa.G
open Go.RowKit Go.Proofs.YtegejpcglabhbaaW.PrintWords Go.Proofs.YtegejpcglabhbaaW.PrintLast Go.Proofs.YtegejpcglabhbaaW.PrintMore
set_option linter.unusedVariables false
set_option linter.unusedSimpArgs false

/-- What a search says of an arc. -/
def askOf (a : S105) : FRes → Option Bool
  | .loop _ => none
  | .done s => some (s.known.getD a.f1.toNat false && decide (a.f2 ≤ s.sum.getD a.f1.toNat 0))
/-- Do all arcs follow? -/
def askL (k n : Nat) (rows : List (List S105)) : List S105 → Option Bool
  | [] => some true
  | a :: L => ((far k n a.f0 rows).bind (askOf a)).bind fun b => if b = true then askL k n rows L else some false
theorem askL.mono (n : Nat) (rows : List (List S105)) (k : Nat) : ∀ L, LeO (askL k n rows L) (askL (k + 1) n rows L)
  | [] => LeO.refl _
  | a :: L => LeO.bind (LeO.bind (farL.mono _ _ _ _ _ _) fun _ => LeO.refl _) fun _ => LeO.ite (askL.mono n rows k L) (LeO.refl _)
theorem dropL105 {l : List S105} {i : Nat} (hlt : i < l.length) : l.drop i = rd_T105 l i :: l.drop (i + 1) := by
  rw [List.drop_eq_getElem_cons hlt]
  simp [rd_T105, List.getD_eq_getElem?_getD, List.getElem?_eq_getElem hlt]
set_option maxHeartbeats 4000000 in
set_option maxRecDepth 100000 in
theorem follows_any (k n : Nat) (c : S44) (rows : List (List S105)) (r : Bool) (A3 : Option Addr) (c3 : Nat) (A5 : Option Addr) (c5 : Nat) (g ob base : Nat) (vs : List Value) (w : World) (hn : n ≤ 1200) (hfit : FitOk n c)
    (hr3 : Kd.C k96 w A3 c.f0.f1.length c.f0.f1) (hc3 : c.f0.f1.length ≤ c3) (hr5 : Kd.C k96 w A5 c.f1.f1.length c.f1.f1) (hc5 : c.f1.f1.length ≤ c5)
    (hg : w.heap[g]? = some (.cells #[.int .i64 (n : Int), .slice (some ⟨ob, 0, none⟩) (n + 1) (n + 1)] 103 (0, 0))) (hrows : RowsAt w base ob vs rows) (hlen : rows.length = n + 1) (hto : ∀ r ∈ rows, ∀ a ∈ r, 0 ≤ a.f1 ∧ a.f1 ≤ n) (h : askL k n rows (arcsOf (n : Int) 0 c) = some r) :
    Calls Try.prog 65 #[.pointer (some ⟨g, 0, none⟩), .agg #[.int .i64 c.f0.f0, .slice A3 c.f0.f1.length c3, .int .i64 c.f1.f0, .slice A5 c.f1.f1.length c5]] w fun e w' => e = .returned (.bool r) ∧ Below w.heap.size w w' := by
  have hu44 := Try.underlying44
  have hu103 := Try.underlying103
  have hu105 := Try.underlying105
  have G1 := Aside0.mk hr3
  have L1 := Aside0.mk hc3
  have G3 := Aside0.mk hr5
  have L3 := Aside0.mk hc5
  have HFIT := Aside0.mk hfit
  have H := Aside0.mk h
  have HLEN := Aside0.mk hlen
  have HTO := Aside0.mk hto
  have HAL := Aside0.mk (arcs_len (n := (n : Int)) (i := 0) hfit)
  have HAM := Aside0.mk (fun a (ha : a ∈ arcsOf (n : Int) 0 c) => arcs_mem hfit (Int.natCast_nonneg n) ha)
  have BX := Aside0.mk (blk_new w (.cells #[.int .i64 c.f0.f0, .slice A3 c.f0.f1.length c3, .int .i64 c.f1.f0, .slice A5 c.f1.f1.length c5] 44))
  have BG := Aside0.mk (blk_alloc hg (.cells #[.int .i64 c.f0.f0, .slice A3 c.f0.f1.length c3, .int .i64 c.f1.f0, .slice A5 c.f1.f1.length c5] 44))
  have HS := Aside0.mk hrows
  clear hr3 hc3 hr5 hc5 hfit h hlen hto hrows hg
  go_enter Try.func65, Try.ntmps65
  go_wp2_with (fail)
  refine start_ (n := 8) (S := fun w' => w'.heap[w.heap.size]? = some (.cells #[.int .i64 c.f0.f0, .slice A3 c.f0.f1.length c3, .int .i64 c.f1.f0, .slice A5 c.f1.f1.length c5] 44 (0, 0)) ∧ w'.heap[g]? = some (.cells #[.int .i64 (n : Int), .slice (some ⟨ob, 0, none⟩) (n + 1) (n + 1)] 103 (0, 0)) ∧ RowsAt w' base ob vs rows ∧ Below w.heap.size w w') (ds := []) #[false, false, false, false, false, false, false, false] (by kernel_rfl) rfl rfl ⟨BX.out, BG.out, RowsAt.below HS.out (below_drew ((Below.refl _ _).alloc (Nat.le_refl _) _)), below_drew ((Below.refl _ _).alloc (Nat.le_refl _) _)⟩ (fun hHeld => ?_)
  refine pure_ (i := 0) (N := some 11) (v := ?_) (a' := ?_) #[true, false, false, false, false, false, false, false] rfl rfl (by kernel_rfl) (fun _ _ _ h => h) (Or.inl ⟨by rfl, ?_⟩) ?_ ?_
  rotate_left
  · intro w'
    go_simp
    with_reducible rfl
  rotate_left
  · simp only [Act.put, List.setIfInBounds_toArray, List.set_cons_zero, List.set_cons_succ, i64_w, i32_w]
    rfl
  refine pure_ (i := 1) (N := some 12) (v := ?_) (a' := ?_) #[true, true, false, false, false, false, false, false] rfl rfl (by kernel_rfl) (fun _ _ _ h => h) (Or.inl ⟨by rfl, ?_⟩) ?_ ?_
  rotate_left
  · intro w'
    go_simp
    with_reducible rfl
  rotate_left
  · simp only [Act.put, List.setIfInBounds_toArray, List.set_cons_zero, List.set_cons_succ, i64_w, i32_w]
    rfl
  refine pure_ (i := 2) (N := some 13) (v := ?_) (a' := ?_) #[true, true, true, false, false, false, false, false] rfl rfl (by kernel_rfl) (fun _ _ _ h => h) (Or.inl ⟨by rfl, ?_⟩) ?_ ?_
  rotate_left
  · intro w'
    go_simp
    with_reducible rfl
  rotate_left
  · simp only [Act.put, List.setIfInBounds_toArray, List.set_cons_zero, List.set_cons_succ, i64_w, i32_w]
    rfl
  refine take_ (i := 3) (N := some 14) (v := ?_) (a' := ?_) #[true, true, true, true, false, false, false, false] rfl rfl (by kernel_rfl) (fun _ _ _ h => h) (Or.inl ⟨by rfl, ?_⟩) hHeld ?_ ?_
  rotate_left
  · rintro w' ⟨s0, s1, s2, s3⟩
    have z0 := (blk_cell s0 0).trans rfl
    have z1 := (blk_cell s0 1).trans rfl
    have z2 := (blk_cell s0 2).trans rfl
    have z3 := (blk_cell s0 3).trans rfl
    have y0 := (blk_cell s1 0).trans rfl
    have y1 := (blk_cell s1 1).trans rfl
    go_simp
    with_reducible rfl
  rotate_left
  · simp only [Act.put, List.setIfInBounds_toArray, List.set_cons_zero, List.set_cons_succ, i64_w, i32_w]
    rfl
  refine take_ (i := 4) (N := some 15) (v := ?_) (a' := ?_) #[true, true, true, true, true, false, false, false] rfl rfl (by kernel_rfl) (fun _ _ _ h => h) (Or.inl ⟨by rfl, ?_⟩) hHeld ?_ ?_
  rotate_left
  · rintro w' ⟨s0, s1, s2, s3⟩
    have z0 := (blk_cell s0 0).trans rfl
    have z1 := (blk_cell s0 1).trans rfl
    have z2 := (blk_cell s0 2).trans rfl
    have z3 := (blk_cell s0 3).trans rfl
    have y0 := (blk_cell s1 0).trans rfl
    have y1 := (blk_cell s1 1).trans rfl
    go_simp
    with_reducible rfl
  rotate_left
  · simp only [Act.put, List.setIfInBounds_toArray, List.set_cons_zero, List.set_cons_succ, i64_w, i32_w]
    rfl
  refine pure_ (i := 7) (N := some 18) (v := ?_) (a' := ?_) #[true, true, true, true, true, false, false, true] rfl rfl (by kernel_rfl) (fun _ _ _ h => h) (Or.inl ⟨by rfl, ?_⟩) ?_ ?_
  rotate_left
  · intro w'
    go_simp
    with_reducible rfl
  rotate_left
  · simp only [Act.put, List.setIfInBounds_toArray, List.set_cons_zero, List.set_cons_succ, i64_w, i32_w]
    rfl
  refine one_ (i := 5) (N := some 16) #[true, true, true, true, true, true, false, true] rfl rfl (by kernel_rfl) (by decide) (fun K hK => ?_)
  refine goes_ Try.func91 (by kernel_rfl) rfl #[.int .i64 (n : Int), .int .i64 0, .agg #[.int .i64 c.f0.f0, .slice A3 c.f0.f1.length c3, .int .i64 c.f1.f0, .slice A5 c.f1.f1.length c5]] (by rfl) rfl rfl (by (try simp only [List.map_toArray, List.map_cons, List.map_nil]); first | done | rfl) ?_
  refine (graph_arcs.calls 10 (n : Int) 0 c.f0.f0 A3 c3 c.f0.f1 c.f1.f0 A5 c5 c.f1.f1 (arcsOf (n : Int) 0 c) _ (Kd.C_below G1.out hHeld.2.2.2) L1.out (Kd.C_below G3.out hHeld.2.2.2) L3.out (arcs_eq (n : Int) 0 c HFIT.out (by omega) 10 (by omega))).mono ?_
  rintro e2 w7 ⟨va, rfl, ha, hb7⟩
  obtain ⟨b, cap, hv, hbn, hbl, _⟩ := Kd.R_form ha HAL.out.2
  subst hv
  refine ⟨_, rfl, ?_⟩
  refine hK.out _ _ ⟨blk_below hHeld.1 hb7, blk_below hHeld.2.1 hb7, RowsAt.below hHeld.2.2.1 hb7, below_step hHeld.2.2.2 hb7⟩ (fun hHeld2 => ?_)
  have HA := Aside0.mk (Kd.R_lower ha hHeld.2.2.2.size)
  clear hK K hb7 ha hbn hbl hHeld
  have hHeld := hHeld2
  clear hHeld2
  generalize hL : (arcsOf (n : Int) 0 c) = L at HA HAL HAM H ⊢
  clear hL
  refine norm_ (a' := ?_) ?_ ?_
  rotate_left
  · show Act.put _ (some 16) _ = _
    simp only [Act.put, List.setIfInBounds_toArray, List.set_cons_zero, List.set_cons_succ, i64_w, i32_w]
    rfl
  refine pure_ (i := 6) (N := some 17) (v := ?_) (a' := ?_) #[true, true, true, true, true, true, true, true] rfl rfl (by kernel_rfl) (fun _ _ _ h => h) (Or.inl ⟨by rfl, ?_⟩) ?_ ?_
  rotate_left
  · intro w'
    go_simp
    with_reducible rfl
  rotate_left
  · simp only [Act.put, List.setIfInBounds_toArray, List.set_cons_zero, List.set_cons_succ, i64_w, i32_w]
    rfl
  refine done_ (by kernel_rfl) ?_
  have HS2 := Aside0.mk hHeld.2.2.1
  have BG2 := Aside0.mk hHeld.2.1
  have HB := Aside0.mk hHeld.2.2.2
  clear HS BG BX hHeld G1 L1 G3 L3 HFIT
  have hL9 := HAL.out.1
  obtain ⟨wl, hwl⟩ : ∃ wl, wl = w7 := ⟨_, rfl⟩
  rw [← hwl] at HS2 BG2 HB HA ⊢
  clear hwl
  go_wp2
  go_loopg [18] L.length (fun kq v18 w' => ∃ (i : Nat), v18 = .int .i64 (i : Int) ∧ Aside0 (kq + i = L.length) ∧ Aside0 (askL k n rows (L.drop i) = some r) ∧ Aside0 (RowsAt w' base ob vs rows) ∧ Aside0 (w'.heap[g]? = some (.cells #[.int .i64 (n : Int), .slice (some ⟨ob, 0, none⟩) (n + 1) (n + 1)] 103 (0, 0))) ∧
    Aside0 (k105.R 105 w' w.heap.size (fun _ => True) (.slice (some ⟨b, 0, none⟩) L.length cap) L) ∧ Aside0 (Below w.heap.size w w'))
  case atStart => exact ⟨0, rfl, ⟨rfl⟩, H, HS2, BG2, HA, HB⟩
  case round =>
    clear HS2 BG2 HB HA H
    obtain ⟨i, rfl, HJ, H, HS, BG, HA, HB⟩ := hrel
    by_cases hjl : i < L.length
    · have HAJ := Aside0.mk (HAM.out _ (mem_rd105 hjl))
      obtain ⟨ad, e, q0, q1, q2, q3⟩ := at_T105 (Kd.R_reads' HA.out).2.2 (i : Int) (by omega) (by omega)
      injection e with e
      subst e
      simp only [Int.toNat_natCast, add_plain] at q0 q1 q2 q3
      have H2 := H.out
      rw [dropL105 hjl] at H2
      obtain ⟨a, ha⟩ : ∃ a, rd_T105 L i = a := ⟨_, rfl⟩
      rw [ha] at HAJ q0 q1 q2 q3 H2
      clear ha
      obtain ⟨b1, hb1, H3⟩ := Option.bind_eq_some_iff.1 H2
      obtain ⟨R, hR, hask⟩ := Option.bind_eq_some_iff.1 hb1
      have HRR := Aside0.mk hR
      have HASK := Aside0.mk hask
      replace H3 := Aside0.mk H3
      clear H2 hb1 hR hask H
      have ha0 := HAJ.out.1
      have ha1 := HAJ.out.2.1
      have ha2 := HAJ.out.2.2.1
      have ha3 := HAJ.out.2.2.2.1
      have hbb := below_alloc (Below.refl wr.heap.size wr) (.cells #[.int .i64 a.f0, .int .i64 a.f1, .int .i64 a.f2, .int .i64 a.f3] 105)
      have BT := Aside0.mk (blk_new wr (.cells #[.int .i64 a.f0, .int .i64 a.f1, .int .i64 a.f2, .int .i64 a.f3] 105))
      have HS2 := Aside0.mk (RowsAt.below HS.out hbb)
      have BG2 := Aside0.mk (blk_below BG.out hbb)
      have HA2 := Aside0.mk (Kd.R_below HA.out hbb)
      have HB2 := Aside0.mk (below_step HB.out hbb)
      clear hbb HS BG HA HB HAJ
      go_wp2_with (fail)
      refine (far_any k n a.f0 rows g ob base vs _ hn ha0 ha1 BG2.out HS2.out HLEN.out HTO.out R HRR.out).mono ?_
      rintro e w5 ⟨v4, v5, v6, v7, rfl, ho, hb⟩
      clear q0 q1 q2 q3
      have BT := Aside0.mk (blk_below BT.out hb)
      have HS2 := Aside0.mk (RowsAt.below HS2.out hb)
      have BG2 := Aside0.mk (blk_below BG2.out hb)
      have HA2 := Aside0.mk (Kd.R_below HA2.out hb)
      have HB2 := Aside0.mk (below_step HB2.out hb)
      have HO := Aside0.mk ho
      clear ho hb HRR
      cases R with
      | loop lp => exact absurd HASK.out (by simp [askOf])
      | done st =>
        obtain ⟨bs, bk, bl, rfl, rfl, rfl, rfl, hcs, hck, hcl, hls, hlk, hll, hbs, hbk, hbl⟩ := HO.out
        have zk := (blk_cell hck a.f1.toNat).trans (encB_get (by omega))
        have zs := (blk_cell hcs a.f1.toNat).trans (encI_get (by omega))
        have z0 := (blk_cell BT.out 0).trans rfl
        have z1 := (blk_cell BT.out 1).trans rfl
        have z2 := (blk_cell BT.out 2).trans rfl
        have z3 := (blk_cell BT.out 3).trans rfl
        have hq : (st.known.getD a.f1.toNat false && decide (a.f2 ≤ st.sum.getD a.f1.toNat 0)) = b1 := Option.some.inj HASK.out
        have HQ := Aside0.mk hq
        clear HO HASK hcs hck hcl hls hlk hll hbs hbk hbl hq
        generalize st.known.getD a.f1.toNat false = kb at zk HQ
        generalize st.sum.getD a.f1.toNat 0 = sv at zs HQ
        cases kb with
        | false =>
          have hr : r = false := by have h1 := H3.out; rw [← HQ.out, Bool.false_and, if_neg (by decide)] at h1; exact (Option.some.inj h1).symm
          have HR := Aside0.mk hr
          clear hr H3 HQ zs
          go_wp2
          go_quiet (fail)
          go_wp2
          go_ret
          exact ⟨ret_bool HR.out.symm, pw_below_drewN HB2.out _⟩
        | true =>
          by_cases hlt : sv < a.f2
          · have hr : r = false := by have h1 := H3.out; rw [← HQ.out, Bool.true_and, decide_eq_false (by omega), if_neg (by decide)] at h1; exact (Option.some.inj h1).symm
            have HR := Aside0.mk hr
            have hd : decide (sv < a.f2) = true := decide_eq_true hlt
            clear hr H3 HQ hlt
            go_wp2
            go_quiet (fail)
            go_wp2
            go_ret
            exact ⟨ret_bool HR.out.symm, pw_below_drewN HB2.out _⟩
          · have hr : askL k n rows (L.drop (i + 1)) = some r := by have h1 := H3.out; rw [← HQ.out, Bool.true_and, decide_eq_true (by omega), if_pos rfl] at h1; exact h1
            have HR := Aside0.mk hr
            have hd : decide (sv < a.f2) = false := decide_eq_false hlt
            clear hr H3 HQ hlt
            go_wp2
            go_quiet (fail)
            go_wp2
            go_roundg (L.length - i - 1)
            case measure => have := HJ.out; omega
            case rel => exact ⟨i + 1, by go_num, ⟨by omega⟩, HR, ⟨RowsAt.below HS2.out (pw_below_drewN (Below.refl _ _) _)⟩, ⟨blk_below BG2.out (pw_below_drewN (Below.refl _ _) _)⟩, ⟨Kd.R_below HA2.out (pw_below_drewN (Below.refl _ _) _)⟩, ⟨pw_below_drewN HB2.out _⟩⟩
    · have hr : r = true := by have h1 := H.out; rw [List.drop_eq_nil_of_le (by omega)] at h1; exact (Option.some.inj h1).symm
      have HR := Aside0.mk hr
      clear hr H
      go_wp2
      go_ret
      exact ⟨ret_bool HR.out.symm, HB.out⟩
/-- Does a constraint follow from a system that has a solution? -/
def followsN (k n : Nat) (l : List S44) (which : List Int) (c : S44) : Option Bool := askL k n (rowsOf (n + 1) (allArcs n l which)) (arcsOf (n : Int) 0 c)
def followsS (k n : Nat) (l : List S44) (c : S44) : Option (Bool × Int) := (solvedN k n l).bind fun s => if s.2 = 0 then (followsN k n l (upTo l.length) c).map fun b => (b, 0) else some (true, 0)
def graph_Follows.f (k : Nat) (a0 : Int) (l1 : List S44) (a2_0 : Int) (l2_1 : List S96) (a2_2 : Int) (l2_3 : List S96) : Option (Bool × Int) :=
  if validB a0 l1 = true then if fitsB a0 ⟨⟨a2_0, l2_1⟩, ⟨a2_2, l2_3⟩⟩ = true then if l1.length = 3000 then some (false, 4) else followsS k a0.toNat l1 ⟨⟨a2_0, l2_1⟩, ⟨a2_2, l2_3⟩⟩ else some (false, 4) else some (false, 4)
theorem followsS.mono (n : Nat) (l : List S44) (c : S44) (k : Nat) : LeO (followsS k n l c) (followsS (k + 1) n l c) :=
  LeO.bind (solvedN.mono _ _ _) fun _ => LeO.ite (LeO.map _ (askL.mono _ _ _ _)) (LeO.refl _)
theorem graph_Follows.mono : ∀ a0 l1 a2_0 l2_1 a2_2 l2_3 k, LeO (graph_Follows.f k a0 l1 a2_0 l2_1 a2_2 l2_3) (graph_Follows.f (k + 1) a0 l1 a2_0 l2_1 a2_2 l2_3) := fun _ _ _ _ _ _ _ =>
  LeO.ite (LeO.ite (LeO.ite (LeO.refl _) (followsS.mono _ _ _ _)) (LeO.refl _)) (LeO.refl _)
set_option maxHeartbeats 4000000 in
set_option maxRecDepth 100000 in
theorem Follows_any (k : Nat) (a0 : Int) (A1 : Option Addr) (c1 : Nat) (l1 : List S44) (c : S44) (A3 : Option Addr) (c3 : Nat) (A5 : Option Addr) (c5 : Nat) (r1 : Bool) (r2 : Int) (w : World) (hr1 : Kd.C k44 w A1 l1.length l1) (hc1 : l1.length ≤ c1)
    (hr3 : Kd.C k96 w A3 c.f0.f1.length c.f0.f1) (hc3 : c.f0.f1.length ≤ c3) (hr5 : Kd.C k96 w A5 c.f1.f1.length c.f1.f1) (hc5 : c.f1.f1.length ≤ c5) (h : graph_Follows.f k a0 l1 c.f0.f0 c.f0.f1 c.f1.f0 c.f1.f1 = some (r1, r2)) :
    Calls Try.prog 33 #[.int .i64 a0, .slice A1 l1.length c1, .agg #[.int .i64 c.f0.f0, .slice A3 c.f0.f1.length c3, .int .i64 c.f1.f0, .slice A5 c.f1.f1.length c5]] w fun e w' => e = .returned (.tuple #[.bool r1, .int .i64 r2]) ∧ Below w.heap.size w w' := by
  have hu44 := Try.underlying44
  have HR := Aside0.mk hr1
  have HC := Aside0.mk hc1
  have G1 := Aside0.mk hr3
  have L1 := Aside0.mk hc3
  have G3 := Aside0.mk hr5
  have L3 := Aside0.mk hc5
  have HM : l1.length ≤ 9223372036854775807 := hr1.2.1
  have H : Aside0 ((if validB a0 l1 = true then if fitsB a0 c = true then if l1.length = 3000 then some (false, (4 : Int)) else followsS k a0.toNat l1 c else some (false, 4) else some (false, 4)) = some (r1, r2)) := ⟨h⟩
  clear hr1 hc1 hr3 hc3 hr5 hc5 h
  have BX := Aside0.mk (blk_new w (.cells #[.int .i64 c.f0.f0, .slice A3 c.f0.f1.length c3, .int .i64 c.f1.f0, .slice A5 c.f1.f1.length c5] 44))
  go_enter Try.func33, Try.ntmps33
  go_wp2_with (fail)
  refine (graph_Valid.calls a0 A1 c1 l1 (validB a0 l1) _ (Kd.C_alloc HR.out _) HC.out rfl).mono ?_
  rintro e w1 ⟨rfl, hb⟩
  have HB := Aside0.mk (below_step ((Below.refl _ _).alloc (Nat.le_refl _) _) hb)
  have BX := Aside0.mk (blk_below BX.out hb)
  clear hb
  have z0 := (blk_cell BX.out 0).trans rfl
  have z1 := (blk_cell BX.out 1).trans rfl
  have z2 := (blk_cell BX.out 2).trans rfl
  have z3 := (blk_cell BX.out 3).trans rfl
  cases hv : validB a0 l1 with
  | false =>
    have H2 := H.out
    rw [hv, if_neg (by decide)] at H2
    obtain ⟨rfl, rfl⟩ := Prod.mk.inj (Option.some.inj H2)
    clear hv H2 H
    go_wp2
    (try simp only [Exit.inBlock, Exit.then])
    refine bodyPost_ret (results_list (rs := [.tmp 6, .tmp 7]) rfl (by simp) (.tmp (.tmp .nil))) rfl ?_
    exact ⟨rfl, HB.out⟩
  | true =>
    have H2 := H.out
    rw [hv, if_pos rfl] at H2
    obtain ⟨n, rfl, hs⟩ := valid_ok hv
    have HS := Aside0.mk hs
    rw [Int.toNat_natCast] at H2
    replace H := Aside0.mk H2
    clear hv hs H2
    go_wp2_with (fail)
    refine (fits_any (n : Int) c A3 c3 A5 c5 _ (Kd.C_below G1.out HB.out) L1.out (Kd.C_below G3.out HB.out) L3.out).mono ?_
    rintro e w2 ⟨rfl, hb⟩
    have HB := Aside0.mk (below_step HB.out hb)
    have BX := Aside0.mk (blk_below BX.out hb)
    clear hb z0 z1 z2 z3
    cases hf : fitsB (n : Int) c with
    | false =>
      have H2 := H.out
      rw [hf, if_neg (by decide)] at H2
      obtain ⟨rfl, rfl⟩ := Prod.mk.inj (Option.some.inj H2)
      clear hf H2 H
      go_wp2
      (try simp only [Exit.inBlock, Exit.then])
      refine bodyPost_ret (results_list (rs := [.tmp 6, .tmp 7]) rfl (by simp) (.tmp (.tmp .nil))) rfl ?_
      exact ⟨rfl, HB.out⟩
    | true =>
      have H2 := H.out
      rw [hf, if_pos rfl] at H2
      have HF := Aside0.mk (fit_ok hf)
      replace H := Aside0.mk H2
      clear hf H2
      by_cases hl3 : l1.length = 3000
      · have H2 := H.out
        rw [if_pos hl3] at H2
        obtain ⟨rfl, rfl⟩ := Prod.mk.inj (Option.some.inj H2)
        have hd : ((l1.length : Int) == 3000) = true := beq_iff_eq.2 (by omega)
        clear H2 H hl3
        go_wp2
        (try simp only [Exit.inBlock, Exit.then])
        refine bodyPost_ret (results_list (rs := [.tmp 6, .tmp 7]) rfl (by simp) (.tmp (.tmp .nil))) rfl ?_
        exact ⟨rfl, HB.out⟩
      · have H2 := H.out
        rw [if_neg hl3] at H2
        unfold followsS at H2
        obtain ⟨⟨s1, s2⟩, hso, H3⟩ := Option.bind_eq_some_iff.1 H2
        have hd : ((l1.length : Int) == 3000) = false := beq_eq_false_iff_ne.2 (by omega)
        have HSOL := Aside0.mk hso
        replace H := Aside0.mk H3
        clear H2 H3 hso hl3
        go_wp2_with (fail)
        refine (solved_any k n l1 A1 c1 _ HS.out (Kd.C_below HR.out HB.out) HC.out s1 s2 HSOL.out).mono ?_
        rintro e w3 ⟨vs, rfl, hvs, hb⟩
        have HB := Aside0.mk (below_step HB.out hb)
        have BX := Aside0.mk (blk_below BX.out hb)
        clear hvs hb HSOL hd
        by_cases h5 : s2 = 0
        · have H2 := H.out
          rw [if_pos h5] at H2
          obtain ⟨r, hr, H3⟩ := Option.map_eq_some_iff.1 H2
          obtain ⟨rfl, rfl⟩ := Prod.mk.inj H3
          subst h5
          replace H := Aside0.mk hr
          unfold followsN at H
          clear H2 H3 hr
          go_wp2
          refine start_ (n := 9) (S := fun w' => w'.heap[w.heap.size]? = some (.cells #[.int .i64 c.f0.f0, .slice A3 c.f0.f1.length c3, .int .i64 c.f1.f0, .slice A5 c.f1.f1.length c5] 44 (0, 0)) ∧ Below w.heap.size w w') (ds := []) #[false, false, false, false, false, false, false, false, false] (by kernel_rfl) rfl rfl ⟨BX.out, below_drew HB.out⟩ (fun hHeld => ?_)
          refine pure_ (i := 0) (N := some 33) (v := ?_) (a' := ?_) #[true, false, false, false, false, false, false, false, false] rfl rfl (by kernel_rfl) (fun _ _ _ h => h) (Or.inl ⟨by rfl, ?_⟩) ?_ ?_
          rotate_left
          · intro w'
            go_simp
            with_reducible rfl
          rotate_left
          · simp only [Act.put, List.setIfInBounds_toArray, List.set_cons_zero, List.set_cons_succ, i64_w, i32_w]
            rfl
          refine pure_ (i := 1) (N := some 34) (v := ?_) (a' := ?_) #[true, true, false, false, false, false, false, false, false] rfl rfl (by kernel_rfl) (fun _ _ _ h => h) (Or.inl ⟨by rfl, ?_⟩) ?_ ?_
          rotate_left
          · intro w'
            go_simp
            with_reducible rfl
          rotate_left
          · simp only [Act.put, List.setIfInBounds_toArray, List.set_cons_zero, List.set_cons_succ, i64_w, i32_w]
            rfl
          refine pure_ (i := 2) (N := some 35) (v := ?_) (a' := ?_) #[true, true, true, false, false, false, false, false, false] rfl rfl (by kernel_rfl) (fun _ _ _ h => h) (Or.inl ⟨by rfl, ?_⟩) ?_ ?_
          rotate_left
          · intro w'
            go_simp
            with_reducible rfl
          rotate_left
          · simp only [Act.put, List.setIfInBounds_toArray, List.set_cons_zero, List.set_cons_succ, i64_w, i32_w]
            rfl
          refine take_ (i := 5) (N := some 38) (v := ?_) (a' := ?_) #[true, true, true, false, false, true, false, false, false] rfl rfl (by kernel_rfl) (fun _ _ _ h => h) (Or.inl ⟨by rfl, ?_⟩) hHeld ?_ ?_
          rotate_left
          · rintro w' ⟨s0, s1⟩
            have z0 := (blk_cell s0 0).trans rfl
            have z1 := (blk_cell s0 1).trans rfl
            have z2 := (blk_cell s0 2).trans rfl
            have z3 := (blk_cell s0 3).trans rfl
            go_simp
            with_reducible rfl
          rotate_left
          · simp only [Act.put, List.setIfInBounds_toArray, List.set_cons_zero, List.set_cons_succ, i64_w, i32_w]
            rfl
          refine one_ (i := 3) (N := some 36) #[true, true, true, true, false, true, false, false, false] rfl rfl (by kernel_rfl) (by decide) (fun K hK => ?_)
          refine goes_ Try.func61 (by kernel_rfl) rfl #[.slice A1 l1.length c1] (by rfl) rfl rfl (by (try simp only [List.map_toArray, List.map_cons, List.map_nil]); first | done | rfl) ?_
          refine (graph_every.calls 0 A1 c1 l1 (upTo l1.length) _ (Kd.C_below HR.out hHeld.2) HC.out (by unfold graph_every.f; rw [if_pos (by have := HS.out.len; omega)])).mono ?_
          rintro e2 w7 ⟨v, rfl, hv, hb7⟩
          obtain ⟨A2, c2, hv2⟩ := Kd.R_slice hv
          subst hv2
          rw [upTo_length]
          refine ⟨_, rfl, ?_⟩
          refine hK.out _ _ ⟨blk_below hHeld.1 hb7, below_step hHeld.2 hb7⟩ (fun hHeld2 => ?_)
          have HV := Aside0.mk (Kd.R_reads' hv)
          clear hK K hb7 hv hHeld
          have hHeld := hHeld2
          clear hHeld2
          refine norm_ (a' := ?_) ?_ ?_
          rotate_left
          · show Act.put _ (some 36) _ = _
            simp only [Act.put, List.setIfInBounds_toArray, List.set_cons_zero, List.set_cons_succ, i64_w, i32_w]
            rfl
          refine one_ (i := 4) (N := some 37) #[true, true, true, true, true, true, false, false, false] rfl rfl (by kernel_rfl) (by decide) (fun K hK => ?_)
          refine goes_ Try.func60 (by kernel_rfl) rfl #[.int .i64 (n : Int), .slice A1 l1.length c1, .slice A2 l1.length c2] (by rfl) rfl rfl (by (try simp only [List.map_toArray, List.map_cons, List.map_nil]); first | done | rfl) ?_
          have hm := made_any n l1 (upTo l1.length) A1 c1 A2 c2 _ HS.out.n1 HS.out.len HS.out.fit (which_upTo l1) (by rw [upTo_length]; exact HS.out.len) (Kd.C_below HR.out hHeld.2) HC.out HV.out.2.2 HV.out.2.1
          rw [upTo_length] at hm
          refine hm.mono ?_
          clear hm
          rintro e2 w8 ⟨g, ob, vs, rfl, hg, hrows, hgg, hob, hb7⟩
          refine ⟨_, rfl, ?_⟩
          refine hK.out _ _ ⟨blk_below hHeld.1 hb7, below_step hHeld.2 hb7⟩ (fun hHeld2 => ?_)
          have BG := Aside0.mk hg
          have HRW := Aside0.mk hrows
          clear hK K hb7 hHeld hg hrows HV
          have hHeld := hHeld2
          clear hHeld2
          refine norm_ (a' := ?_) ?_ ?_
          rotate_left
          · show Act.put _ (some 37) _ = _
            simp only [Act.put, List.setIfInBounds_toArray, List.set_cons_zero, List.set_cons_succ, i64_w, i32_w]
            rfl
          refine one_ (i := 6) (N := some 39) #[true, true, true, true, true, true, true, false, false] rfl rfl (by kernel_rfl) (by decide) (fun K hK => ?_)
          refine goes_ Try.func65 (by kernel_rfl) rfl #[.pointer (some ⟨g, 0, none⟩), .agg #[.int .i64 c.f0.f0, .slice A3 c.f0.f1.length c3, .int .i64 c.f1.f0, .slice A5 c.f1.f1.length c5]] (by rfl) rfl rfl (by (try simp only [List.map_toArray, List.map_cons, List.map_nil]); first | done | rfl) ?_
          refine (follows_any k n c _ r A3 c3 A5 c5 g ob _ vs _ HS.out.n1 HF.out (Kd.C_below G1.out hHeld.2) L1.out (Kd.C_below G3.out hHeld.2) L3.out BG.out HRW.out (rowsOf_length _ _) (rows_arc HS.out.fit (which_upTo l1)) H.out).mono ?_
          rintro e2 w9 ⟨rfl, hb7⟩
          refine ⟨_, rfl, ?_⟩
          refine hK.out _ _ ⟨blk_below hHeld.1 hb7, below_step hHeld.2 hb7⟩ (fun hHeld2 => ?_)
          clear hK K hb7 hHeld BG HRW
          have hHeld := hHeld2
          clear hHeld2
          refine norm_ (a' := ?_) ?_ ?_
          rotate_left
          · show Act.put _ (some 39) _ = _
            simp only [Act.put, List.setIfInBounds_toArray, List.set_cons_zero, List.set_cons_succ, i64_w, i32_w]
            rfl
          refine pure_ (i := 7) (N := some 6) (v := ?_) (a' := ?_) #[true, true, true, true, true, true, true, true, false] rfl rfl (by kernel_rfl) (fun _ _ _ h => h) (Or.inl ⟨by rfl, ?_⟩) ?_ ?_
          rotate_left
          · intro w'
            go_simp
            with_reducible rfl
          rotate_left
          · simp only [Act.put, List.setIfInBounds_toArray, List.set_cons_zero, List.set_cons_succ, i64_w, i32_w]
            rfl
          refine pure_ (i := 8) (N := some 7) (v := ?_) (a' := ?_) #[true, true, true, true, true, true, true, true, true] rfl rfl (by kernel_rfl) (fun _ _ _ h => h) (Or.inl ⟨by rfl, ?_⟩) ?_ ?_
          rotate_left
          · intro w'
            go_simp
            with_reducible rfl
          rotate_left
          · simp only [Act.put, List.setIfInBounds_toArray, List.set_cons_zero, List.set_cons_succ, i64_w, i32_w]
            rfl
          refine done_ (by kernel_rfl) ?_
          go_wp2
          (try simp only [Exit.inBlock, Exit.then])
          refine bodyPost_ret (results_list (rs := [.tmp 6, .tmp 7]) rfl (by simp) (.tmp (.tmp .nil))) rfl ?_
          exact ⟨rfl, hHeld.2⟩
        · have H2 := H.out
          rw [if_neg h5] at H2
          obtain ⟨rfl, rfl⟩ := Prod.mk.inj (Option.some.inj H2)
          have hd5 : (s2 != 0) = true := by simpa using h5
          clear H2 H h5
          go_wp2
          (try simp only [Exit.inBlock, Exit.then])
          refine bodyPost_ret (results_list (rs := [.tmp 6, .tmp 7]) rfl (by simp) (.tmp (.tmp .nil))) rfl ?_
          exact ⟨rfl, HB.out⟩
theorem graph_Follows.calls (k : Nat) (a0 : Int) (A1 : Option Addr) (c1 : Nat) (l1 : List (S44)) (a2_0 : Int) (A2_1 : Option Addr) (c2_1 : Nat) (l2_1 : List (S96)) (a2_2 : Int) (A2_3 : Option Addr) (c2_3 : Nat) (l2_3 : List (S96)) (r1 : Bool) (r2 : Int) (w : World) (hr1 : Kd.C k44 w A1 l1.length l1) (hc1 : l1.length ≤ c1) (hr2_1 : Kd.C k96 w A2_1 l2_1.length l2_1) (hc2_1 : l2_1.length ≤ c2_1) (hr2_3 : Kd.C k96 w A2_3 l2_3.length l2_3) (hc2_3 : l2_3.length ≤ c2_3) (h : graph_Follows.f k a0 l1 a2_0 l2_1 a2_2 l2_3 = some (r1, r2)) :
    Calls Try.prog 33 #[.int .i64 a0, .slice A1 l1.length c1, .agg #[.int .i64 a2_0, .slice A2_1 l2_1.length c2_1, .int .i64 a2_2, .slice A2_3 l2_3.length c2_3]] w fun e w' => e = .returned (.tuple #[.bool r1, .int .i64 r2]) ∧ Below w.heap.size w w' :=
  Follows_any k a0 A1 c1 l1 ⟨⟨a2_0, l2_1⟩, ⟨a2_2, l2_3⟩⟩ A2_1 c2_1 A2_3 c2_3 r1 r2 w hr1 hc1 hr2_1 hc2_1 hr2_3 hc2_3 h
end Go.Proofs.Ytegejpcglabhbaa.G
