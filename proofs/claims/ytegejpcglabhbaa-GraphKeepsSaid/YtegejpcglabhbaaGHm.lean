/- Hand-made contract: graph.Minimal. -/
import Derived.Test.YtegejpcglabhbaaGHf
import Derived.Test.YtegejpcglabhbaaGHi
import Derived.Test.YtegejpcglabhbaaGHj
namespace Go.Proofs.Ytegejpcglabhbaa.G
open Go.RowKit Go.Proofs.YtegejpcglabhbaaW.PrintWords Go.Proofs.YtegejpcglabhbaaW.PrintLast Go.Proofs.YtegejpcglabhbaaW.PrintMore
set_option linter.unusedVariables false
set_option linter.unusedSimpArgs false


theorem below_grownO {w w1 w2 : World} {row : Option Nat} (h : Below w.heap.size w w1) (hg : w1.grownBy w2 row) (hge : ∀ g, row = some g → w.heap.size ≤ g) : Below w.heap.size w w2 :=
  ⟨hg.os.trans h.os, hg.tape.trans h.tape, hg.output.trans h.output, Nat.le_trans h.size hg.size, fun i hi => (hg.block i (Nat.lt_of_lt_of_le hi h.size) (fun e => by have := hge i e.symm; omega)).trans (h.block i hi)⟩
/-- The predicate of Minimal: it is that number. -/
theorem minimal1 (bi : Nat) (v : Int) : PredS (fun W => W.cell? ⟨bi, 0, none⟩ = some (.int .i64 v)) 71 #[.pointer (some ⟨bi, 0, none⟩)] (fun x => x == v) := by
  intro x W h
  have h0 : W.cell? ⟨bi, 0, none⟩ = some (.int .i64 v) := h
  clear h
  go_enter Try.func71, Try.ntmps71
  go_wp2
  go_ret
  exact ⟨rfl, Below.refl _ _⟩
/-- The constraints that are left, from the one with the number below the first argument on, downwards. -/
def minL (k n : Nat) (l : List S44) : Nat → List Int → Option (List Int)
  | 0, left => some left
  | i + 1, left => (followsN k n l (leftB (fun x => x == (i : Int)) left) (rd_T44 l (i : Int))).bind fun b => minL k n l i (if b = true then leftB (fun x => x == (i : Int)) left else left)
theorem minL.mono (n : Nat) (l : List S44) (k : Nat) : ∀ i left, LeO (minL k n l i left) (minL (k + 1) n l i left)
  | 0, left => LeO.refl _
  | i + 1, left => LeO.bind (askL.mono _ _ _ _) fun _ => minL.mono n l k i _
def minS (k n : Nat) (l : List S44) : Option (List Int × Int) := (solvedN k n l).bind fun s => if s.2 = 0 then (minL k n l l.length (upTo l.length)).map fun r => (r, 0) else some ([], s.2)
def graph_Minimal.f (k : Nat) (a0 : Int) (l1 : List S44) : Option (List Int × Int) := if validB a0 l1 = true then if 200 < l1.length then some ([], 2) else minS k a0.toNat l1 else some ([], 4)
theorem graph_Minimal.mono : ∀ a0 l1 k, LeO (graph_Minimal.f k a0 l1) (graph_Minimal.f (k + 1) a0 l1) := fun _ _ _ =>
  LeO.ite (LeO.ite (LeO.refl _) (LeO.bind (solvedN.mono _ _ _) fun _ => LeO.ite (LeO.map _ (minL.mono _ _ _ _ _)) (LeO.refl _))) (LeO.refl _)
theorem leftB_length (p : Int → Bool) (l : List Int) : (leftB p l).length ≤ l.length := List.length_filter_le _ _
theorem leftB_mem {p : Int → Bool} {l : List Int} {x : Int} (h : x ∈ leftB p l) : x ∈ l := (List.mem_filter.1 h).1
set_option maxHeartbeats 4000000 in
set_option maxRecDepth 100000 in
theorem graph_Minimal.calls (k : Nat) (a0 : Int) (A1 : Option Addr) (c1 : Nat) (l1 : List (S44)) (r1 : List Int) (r2 : Int) (w : World) (hr1 : Kd.C k44 w A1 l1.length l1) (hc1 : l1.length ≤ c1) (h : graph_Minimal.f k a0 l1 = some (r1, r2)) :
    Calls Try.prog 36 #[.int .i64 a0, .slice A1 l1.length c1] w fun e w' => ∃ v0_ : Value, e = .returned (.tuple #[v0_, .int .i64 r2]) ∧ Kd.R (Kd.int .i64) 3 w' w.heap.size (fun _ => True) v0_ r1 ∧ Below w.heap.size w w' := by
  have HR := Aside0.mk hr1
  have HC := Aside0.mk hc1
  have H := Aside0.mk h
  have HM : l1.length ≤ 9223372036854775807 := hr1.2.1
  clear hr1 hc1 h
  go_enter Try.func36, Try.ntmps36
  go_wp2_with (fail)
  refine (graph_Valid.calls a0 A1 c1 l1 (validB a0 l1) _ HR.out HC.out rfl).mono ?_
  rintro e w1 ⟨rfl, hb⟩
  have HB := Aside0.mk hb
  clear hb
  have H2 := H.out
  unfold graph_Minimal.f at H2
  cases hv : validB a0 l1 with
  | false =>
    rw [hv, if_neg (by decide)] at H2
    obtain ⟨rfl, rfl⟩ := Prod.mk.inj (Option.some.inj H2)
    clear hv H2 H
    go_wp2
    (try simp only [Exit.inBlock, Exit.then])
    refine bodyPost_ret (results_list (rs := [.tmp 4, .tmp 5]) rfl (by simp) (.tmp (.tmp .nil))) rfl ?_
    exact ⟨_, rfl, Kd.R_nil _ _ _ _ _, HB.out⟩
  | true =>
    rw [hv, if_pos rfl] at H2
    obtain ⟨n, rfl, hs⟩ := valid_ok hv
    have HS := Aside0.mk hs
    rw [Int.toNat_natCast] at H2
    clear hv hs H
    by_cases h200 : 200 < l1.length
    · rw [if_pos h200] at H2
      obtain ⟨rfl, rfl⟩ := Prod.mk.inj (Option.some.inj H2)
      have hd : decide ((200 : Int) < (l1.length : Int)) = true := decide_eq_true (by omega)
      clear H2
      go_wp2
      (try simp only [Exit.inBlock, Exit.then])
      refine bodyPost_ret (results_list (rs := [.tmp 4, .tmp 5]) rfl (by simp) (.tmp (.tmp .nil))) rfl ?_
      exact ⟨_, rfl, Kd.R_nil _ _ _ _ _, HB.out⟩
    · rw [if_neg h200] at H2
      have hd : decide ((200 : Int) < (l1.length : Int)) = false := decide_eq_false (by omega)
      unfold minS at H2
      obtain ⟨⟨s1, s2⟩, hso, H3⟩ := Option.bind_eq_some_iff.1 H2
      have HSOL := Aside0.mk hso
      have H := Aside0.mk H3
      clear H2 H3 hso
      go_wp2_with (fail)
      refine (solved_any k n l1 A1 c1 _ HS.out (Kd.C_below HR.out HB.out) HC.out s1 s2 HSOL.out).mono ?_
      rintro e w2 ⟨vs, rfl, hvs, hb⟩
      have HB := Aside0.mk (below_step HB.out hb)
      clear hvs hb HSOL hd
      by_cases h5 : s2 = 0
      case neg =>
        have H2 := H.out
        rw [if_neg h5] at H2
        obtain ⟨rfl, rfl⟩ := Prod.mk.inj (Option.some.inj H2)
        have hd5 : (s2 != 0) = true := by simpa using h5
        clear H2 H h5
        go_wp2
        (try simp only [Exit.inBlock, Exit.then])
        refine bodyPost_ret (results_list (rs := [.tmp 4, .tmp 5]) rfl (by simp) (.tmp (.tmp .nil))) rfl ?_
        exact ⟨_, rfl, Kd.R_nil _ _ _ _ _, HB.out⟩
      case pos =>
        have H2 := H.out
        rw [if_pos h5] at H2
        obtain ⟨r, hr, H3⟩ := Option.map_eq_some_iff.1 H2
        obtain ⟨rfl, rfl⟩ := Prod.mk.inj H3
        subst h5
        replace H := Aside0.mk hr
        clear H2 H3 hr
        go_wp2_with (fail)
        refine (graph_every.calls 0 A1 c1 l1 (upTo l1.length) _ (Kd.C_below HR.out HB.out) HC.out (by unfold graph_every.f; rw [if_pos (by have := HS.out.len; omega)])).mono ?_
        rintro e w3 ⟨v, rfl, hv, hb⟩
        have HZ := HB.out.size
        have HB := Aside0.mk (below_step HB.out hb)
        obtain ⟨A2, c2, hv2⟩ := Kd.R_slice hv
        subst hv2
        have HL := Aside0.mk (Kd.R_lower hv HZ)
        clear hb hv HZ
        rw [upTo_length] at HL ⊢
        go_wp2
        have BI := Aside0.mk (blk_new w3 (.cells #[.int .i64 ((l1.length : Int) - 1)] 3))
        have HL := Aside0.mk (Kd.R_below HL.out (below_alloc (Below.refl _ _) (.cells #[.int .i64 ((l1.length : Int) - 1)] 3)))
        have HB := Aside0.mk (below_alloc HB.out (.cells #[.int .i64 ((l1.length : Int) - 1)] 3))
        generalize w3.alloc (.cells #[.int .i64 ((l1.length : Int) - 1)] 3) = w4 at BI HL HB ⊢
        generalize w3.heap.size = b0 at BI ⊢
        have H200 := Aside0.mk (show l1.length ≤ 200 by omega)
        clear h200
        go_loopg [8, 9] l1.length (fun kq v8 v9 w' => ∃ (i : Nat) (left : List Int) (A : Option Addr) (c bi : Nat) (iv : Int), v8 = .slice A left.length c ∧ v9 = .pointer (some ⟨bi, 0, none⟩) ∧ Aside0 (kq = i) ∧ Aside0 (iv = (i : Int) - 1) ∧ Aside0 (i ≤ l1.length) ∧ Aside0 (minL k n l1 i left = some r) ∧ Aside0 (Which l1 left) ∧ Aside0 (left.length ≤ 200) ∧
          Aside0 (w'.heap[bi]? = some (.cells #[.int .i64 iv] 3 (0, 0))) ∧ Aside0 ((Kd.int .i64).R 3 w' w.heap.size (fun _ => True) (.slice A left.length c) left) ∧ Aside0 (Below w.heap.size w w'))
        case atStart => exact ⟨l1.length, upTo l1.length, A2, c2, b0, _, by rw [upTo_length], rfl, ⟨rfl⟩, ⟨rfl⟩, ⟨Nat.le_refl _⟩, H, ⟨which_upTo l1⟩, ⟨by rw [upTo_length]; exact H200.out⟩, BI, ⟨by rw [upTo_length]; exact HL.out⟩, HB⟩
        case round =>
          clear BI HL HB H
          obtain ⟨i, left, A, c, bi, iv, rfl, rfl, HK, HIV, HI, H, HW, HLL, BI, HL, HB⟩ := hrel
          cases i with
          | zero =>
            obtain rfl : iv = -1 := by have := HIV.out; omega
            have HE := Aside0.mk (Option.some.inj H.out)
            have z0 := (blk_cell BI.out 0).trans rfl
            clear H HIV
            go_wp2
            (try simp only [Exit.inBlock, Exit.then])
            refine bodyPost_ret (results_list (rs := [.tmp 4, .tmp 5]) rfl (by simp) (.tmp (.tmp .nil))) rfl ?_
            exact ⟨_, rfl, by rw [← HE.out]; exact HL.out, HB.out⟩
          | succ m =>
            obtain rfl : iv = (m : Int) := by have := HIV.out; omega
            have hml := HI.out
            have h200 := H200.out
            have hm0 : (0 : Int) ≤ (m : Int) := by omega
            have hm1 : (m : Int) < (l1.length : Int) := by omega
            have hd : decide ((0 : Int) ≤ (m : Int)) = true := decide_eq_true hm0
            obtain ⟨b, hfo, H3⟩ := Option.bind_eq_some_iff.1 H.out
            obtain ⟨rest, hrest⟩ : ∃ rest, rest = leftB (fun x => x == (m : Int)) left := ⟨_, rfl⟩
            obtain ⟨cc, hcc⟩ : ∃ cc, cc = rd_T44 l1 (m : Int) := ⟨_, rfl⟩
            rw [← hrest, ← hcc] at hfo
            rw [← hrest] at H3
            have HFO : Aside0 (askL k n (rowsOf (n + 1) (allArcs n l1 rest)) (arcsOf (n : Int) 0 cc) = some b) := ⟨hfo⟩
            replace H := Aside0.mk H3
            have HWR := Aside0.mk (show Which l1 rest from fun x hx => HW.out x (by rw [hrest] at hx; exact leftB_mem hx))
            have HLR := Aside0.mk (show rest.length ≤ 3000 by have h1 := leftB_length (fun x => x == (m : Int)) left; have h2 := HLL.out; rw [hrest]; omega)
            have HLR2 := Aside0.mk (show rest.length ≤ 200 by have h1 := leftB_length (fun x => x == (m : Int)) left; have h2 := HLL.out; rw [hrest]; omega)
            have HF := Aside0.mk (show FitOk n cc by rw [hcc]; exact HS.out.fit _ (mem_rd44 hm0 hm1))
            obtain ⟨ad1, A3, c3, A5, c5, e1, q1, q2, q3, q4, k1, g1, k3, g3⟩ := at_T44 HR.out (m : Int) hm0 hm1
            cases e1
            rw [← hcc] at q1 q2 q3 q4 k1 g1 k3 g3
            rw [Int.toNat_natCast] at q1 q2 q3 q4
            have HRS := Aside0.mk hrest
            have Q1 := Aside0.mk q1
            have Q2 := Aside0.mk q2
            have Q3 := Aside0.mk q3
            have Q4 := Aside0.mk q4
            have G1 := Aside0.mk g1
            have G3 := Aside0.mk g3
            have L1 := Aside0.mk k1
            have L3 := Aside0.mk k3
            have z0 := (blk_cell BI.out 0).trans rfl
            clear hrest hcc hfo H3 q1 q2 q3 q4 k1 g1 k3 g3 HIV
            go_wp2_with (fail)
            refine (cloneI A c left _ (Kd.R_reads' HL.out).2.2 (Kd.R_reads' HL.out).2.1 (by have := HLL.out; omega)).mono ?_
            rintro e w2 ⟨v, rfl, hv, hb⟩
            obtain ⟨A6, c6, hv2⟩ := Kd.R_slice hv
            subst hv2
            have HCL := Aside0.mk hv
            have HB2 := Aside0.mk hb
            have BI2 := Aside0.mk (blk_below BI.out hb)
            have HBI := Aside0.mk (blk_lt BI.out)
            clear hb hv z0
            go_wp2_with (fail)
            refine (deleteF (fun W => W.cell? ⟨bi, 0, none⟩ = some (.int .i64 (m : Int))) 71 #[.pointer (some ⟨bi, 0, none⟩)] (enters_of Try.func71 (by kernel_rfl) rfl) (fun x => x == (m : Int)) A6 c6 left wr.heap.size (fun _ => True) _ ((blk_cell BI2.out 0).trans rfl) (fun W W' h hb => (hb.cell (World.block_lt_of_cell? _ _ h)).trans h)
              (fun b hA W i u h => (World.cell?_setCell_other _ _ _ _ (fun e => by injection e with e1 _ _; have h1 := Kd.R_base HCL.out b (by rw [hA]; rfl); have h2 := HBI.out; omega)).trans h) (minimal1 bi (m : Int)) HCL.out).mono ?_
            rintro e w3 ⟨rfl, hre, _, hg⟩
            have HZ0 := HB.out.size
            have hb := below_grownO HB2.out hg (Kd.R_base HCL.out)
            rw [← HRS.out] at hre ⊢
            have BI := Aside0.mk (blk_below BI.out hb)
            have HB := Aside0.mk (below_step HB.out hb)
            have HL := Aside0.mk (Kd.R_below HL.out hb)
            have HRR := Aside0.mk (Kd.R_lower hre HZ0)
            have HRE := Aside0.mk (Kd.R_reads' hre)
            clear hre hg hb HRS HCL HB2 BI2 HZ0 hd
            go_wp2
            refine start_ (n := 9) (S := fun w' => w'.heap[bi]? = some (.cells #[.int .i64 (m : Int)] 3 (0, 0)) ∧ Below w.heap.size w w' ∧ Below w3.heap.size w3 w') (ds := []) #[false, false, false, false, false, false, false, false, false] (by kernel_rfl) rfl rfl ⟨BI.out, below_drew HB.out, below_drew (Below.refl _ _)⟩ (fun hHeld => ?_)
            refine pure_ (i := 0) (N := some 42) (v := ?_) (a' := ?_) #[true, false, false, false, false, false, false, false, false] rfl rfl (by kernel_rfl) (fun _ _ _ h => h) (Or.inl ⟨by rfl, ?_⟩) ?_ ?_
            rotate_left
            · intro w'
              go_simp
              with_reducible rfl
            rotate_left
            · simp only [Act.put, List.setIfInBounds_toArray, List.set_cons_zero, List.set_cons_succ, i64_w, i32_w]
              rfl
            refine pure_ (i := 1) (N := some 43) (v := ?_) (a' := ?_) #[true, true, false, false, false, false, false, false, false] rfl rfl (by kernel_rfl) (fun _ _ _ h => h) (Or.inl ⟨by rfl, ?_⟩) ?_ ?_
            rotate_left
            · intro w'
              go_simp
              with_reducible rfl
            rotate_left
            · simp only [Act.put, List.setIfInBounds_toArray, List.set_cons_zero, List.set_cons_succ, i64_w, i32_w]
              rfl
            refine pure_ (i := 2) (N := some 44) (v := ?_) (a' := ?_) #[true, true, true, false, false, false, false, false, false] rfl rfl (by kernel_rfl) (fun _ _ _ h => h) (Or.inl ⟨by rfl, ?_⟩) ?_ ?_
            rotate_left
            · intro w'
              go_simp
              with_reducible rfl
            rotate_left
            · simp only [Act.put, List.setIfInBounds_toArray, List.set_cons_zero, List.set_cons_succ, i64_w, i32_w]
              rfl
            refine pure_ (i := 4) (N := some 46) (v := ?_) (a' := ?_) #[true, true, true, false, true, false, false, false, false] rfl rfl (by kernel_rfl) (fun _ _ _ h => h) (Or.inl ⟨by rfl, ?_⟩) ?_ ?_
            rotate_left
            · intro w'
              go_simp
              with_reducible rfl
            rotate_left
            · simp only [Act.put, List.setIfInBounds_toArray, List.set_cons_zero, List.set_cons_succ, i64_w, i32_w]
              rfl
            refine take_ (i := 5) (N := some 47) (v := ?_) (a' := ?_) #[true, true, true, false, true, true, false, false, false] rfl rfl (by kernel_rfl) (fun _ _ _ h => h) (Or.inl ⟨by rfl, ?_⟩) hHeld ?_ ?_
            rotate_left
            · rintro w' ⟨s0, s1, s2⟩
              have z0 := (blk_cell s0 0).trans rfl
              have q1 := (s1.cell (World.block_lt_of_cell? w _ Q1.out)).trans Q1.out
              have q2 := (s1.cell (World.block_lt_of_cell? w _ Q2.out)).trans Q2.out
              have q3 := (s1.cell (World.block_lt_of_cell? w _ Q3.out)).trans Q3.out
              have q4 := (s1.cell (World.block_lt_of_cell? w _ Q4.out)).trans Q4.out
              go_simp
              with_reducible rfl
            rotate_left
            · simp only [Act.put, List.setIfInBounds_toArray, List.set_cons_zero, List.set_cons_succ, i64_w, i32_w]
              rfl
            refine pure_ (i := 6) (N := some 48) (v := ?_) (a' := ?_) #[true, true, true, false, true, true, true, false, false] rfl rfl (by kernel_rfl) (fun _ _ _ h => h) (Or.inl ⟨by rfl, ?_⟩) ?_ ?_
            rotate_left
            · intro w'
              go_simp
              with_reducible rfl
            rotate_left
            · simp only [Act.put, List.setIfInBounds_toArray, List.set_cons_zero, List.set_cons_succ, i64_w, i32_w]
              rfl
            refine take_ (i := 7) (N := some 49) (v := ?_) (a' := ?_) #[true, true, true, false, true, true, true, true, false] rfl rfl (by kernel_rfl) (fun _ _ _ h => h) (Or.inl ⟨by rfl, ?_⟩) hHeld ?_ ?_
            rotate_left
            · rintro w' ⟨s0, s1, s2⟩
              have z0 := (blk_cell s0 0).trans rfl
              have q1 := (s1.cell (World.block_lt_of_cell? w _ Q1.out)).trans Q1.out
              have q2 := (s1.cell (World.block_lt_of_cell? w _ Q2.out)).trans Q2.out
              have q3 := (s1.cell (World.block_lt_of_cell? w _ Q3.out)).trans Q3.out
              have q4 := (s1.cell (World.block_lt_of_cell? w _ Q4.out)).trans Q4.out
              go_simp
              with_reducible rfl
            rotate_left
            · simp only [Act.put, List.setIfInBounds_toArray, List.set_cons_zero, List.set_cons_succ, i64_w, i32_w]
              rfl
            refine one_ (i := 3) (N := some 45) #[true, true, true, true, true, true, true, true, false] rfl rfl (by kernel_rfl) (by decide) (fun K hK => ?_)
            refine goes_ Try.func60 (by kernel_rfl) rfl #[.int .i64 (n : Int), .slice (some ad1) l1.length c1, .slice A6 rest.length c6] (by rfl) rfl rfl (by (try simp only [List.map_toArray, List.map_cons, List.map_nil]); first | done | rfl) ?_
            refine (made_any n l1 rest (some ad1) c1 A6 c6 _ HS.out.n1 HS.out.len HS.out.fit HWR.out HLR.out (Kd.C_below HR.out hHeld.2.1) HC.out (Kd.C_below HRE.out.2.2 hHeld.2.2) HRE.out.2.1).mono ?_
            rintro e2 w8 ⟨g, ob, vs, rfl, hg, hrows, hgg, hob, hb7⟩
            refine ⟨_, rfl, ?_⟩
            refine hK.out _ _ ⟨blk_below hHeld.1 hb7, below_step hHeld.2.1 hb7, below_step hHeld.2.2 hb7⟩ (fun hHeld2 => ?_)
            have BG := Aside0.mk hg
            have HRW := Aside0.mk hrows
            clear hK K hb7 hHeld hg hrows
            have hHeld := hHeld2
            clear hHeld2
            refine norm_ (a' := ?_) ?_ ?_
            rotate_left
            · show Act.put _ (some 45) _ = _
              simp only [Act.put, List.setIfInBounds_toArray, List.set_cons_zero, List.set_cons_succ, i64_w, i32_w]
              rfl
            refine one_ (i := 8) (N := some 50) #[true, true, true, true, true, true, true, true, true] rfl rfl (by kernel_rfl) (by decide) (fun K hK => ?_)
            refine goes_ Try.func65 (by kernel_rfl) rfl #[.pointer (some ⟨g, 0, none⟩), .agg #[.int .i64 cc.f0.f0, .slice A3 cc.f0.f1.length c3, .int .i64 cc.f1.f0, .slice A5 cc.f1.f1.length c5]] (by rfl) rfl rfl (by (try simp only [List.map_toArray, List.map_cons, List.map_nil]); first | done | rfl) ?_
            refine (follows_any k n cc _ b A3 c3 A5 c5 g ob _ vs _ HS.out.n1 HF.out (Kd.C_below G1.out hHeld.2.1) L1.out (Kd.C_below G3.out hHeld.2.1) L3.out BG.out HRW.out (rowsOf_length _ _) (rows_arc HS.out.fit HWR.out) HFO.out).mono ?_
            rintro e2 w9 ⟨rfl, hb7⟩
            refine ⟨_, rfl, ?_⟩
            refine hK.out _ _ ⟨blk_below hHeld.1 hb7, below_step hHeld.2.1 hb7, below_step hHeld.2.2 hb7⟩ (fun hHeld2 => ?_)
            clear hK K hb7 hHeld BG HRW
            have hHeld := hHeld2
            clear hHeld2
            refine norm_ (a' := ?_) ?_ ?_
            rotate_left
            · show Act.put _ (some 50) _ = _
              simp only [Act.put, List.setIfInBounds_toArray, List.set_cons_zero, List.set_cons_succ, i64_w, i32_w]
              rfl
            refine done_ (by kernel_rfl) ?_
            have BI := Aside0.mk hHeld.1
            have HB := Aside0.mk hHeld.2.1
            have HL := Aside0.mk (Kd.R_below HL.out hHeld.2.2)
            have HRR := Aside0.mk (Kd.R_below HRR.out hHeld.2.2)
            clear hHeld Q1 Q2 Q3 Q4 G1 G3 L1 L3 HF HFO HRE
            have z0 := (blk_cell BI.out 0).trans rfl
            have BN := Aside0.mk (blk_new w9 (.cells #[.int .i64 ((m : Int) - 1)] 3))
            have HBN := Aside0.mk (below_alloc HB.out (.cells #[.int .i64 ((m : Int) - 1)] 3))
            have HLN := Aside0.mk (Kd.R_below HL.out (below_alloc (Below.refl _ _) (.cells #[.int .i64 ((m : Int) - 1)] 3)))
            have HRN := Aside0.mk (Kd.R_below HRR.out (below_alloc (Below.refl _ _) (.cells #[.int .i64 ((m : Int) - 1)] 3)))
            cases b with
            | true =>
              have H2 := H.out
              rw [if_pos rfl] at H2
              replace H := Aside0.mk H2
              clear H2
              go_wp2
              go_roundg m
              case measure => have := HK.out; omega
              case rel => exact ⟨m, rest, A6, c6, w9.heap.size, (m : Int) - 1, rfl, rfl, ⟨rfl⟩, ⟨rfl⟩, ⟨by omega⟩, H, HWR, HLR2, BN, HRN, HBN⟩
            | false =>
              have H2 := H.out
              rw [if_neg (by decide)] at H2
              replace H := Aside0.mk H2
              clear H2
              go_wp2
              go_roundg m
              case measure => have := HK.out; omega
              case rel => exact ⟨m, left, A, c, w9.heap.size, (m : Int) - 1, rfl, rfl, ⟨rfl⟩, ⟨rfl⟩, ⟨by omega⟩, H, HW, HLL, BN, HLN, HBN⟩
end Go.Proofs.Ytegejpcglabhbaa.G
