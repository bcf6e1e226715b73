/- A part of this claim's proof: texts of its author, and printed ones, packed by a program of its author's. -/
import Derived.Test.YtegejpcglabhbaaCe35
namespace Go.Proofs.Ytegejpcglabhbaa.G
open Go.RowKit Go.Proofs.YtegejpcglabhbaaW.PrintWords Go.Proofs.YtegejpcglabhbaaW.PrintLast Go.Proofs.YtegejpcglabhbaaW.PrintMore
attribute [local go_sem] max2_int min2_int max_two min_two
set_option linter.unusedVariables false
set_option linter.unusedSimpArgs false
def bysL (l : List S105) : List Int := (l.filter fun a => decide (0 ≤ a.f3)).map fun a => a.f3
def usedL (l : List S105) : List Int := compI (sortI (bysL l))
theorem bysL_length (l : List S105) : (bysL l).length ≤ l.length := by unfold bysL; rw [List.length_map]; exact List.length_filter_le _ _
theorem bysL_snoc (l : List S105) (a : S105) : bysL (l ++ [a]) = if 0 ≤ a.f3 then bysL l ++ [a.f3] else bysL l := by
 unfold bysL
 rw [List.filter_append, List.map_append]
 by_cases h : 0 ≤ a.f3
 ·rw [if_pos h]; simp [h]
 ·rw [if_neg h]; simp [h]
theorem loops_l1_len : ∀ (k : Nat) (l : List S105) (x : Int) (acc : List S105) (y : Int) (r : List S105), graph_loops.l1 k l x acc y = some r → r.length ≤ 4398046511104
 | 0, _, _, _, _, _, h => by simp [graph_loops.l1] at h
 | k + 1, l, x, acc, y, r, h => by
  simp only [graph_loops.l1] at h
  split at h
  ·split at h
   ·split at h
    ·simp only [Option.bind_some] at h
     split at h
     ·obtain rfl := Option.some.inj h
      rw [List.length_append, List.length_singleton]
      omega
     ·exact loops_l1_len k _ _ _ _ _ h
    ·cases h
   ·cases h
  ·cases h
theorem loops_l0_len : ∀ (k : Nat) (l : List S105) (x y z : Int) (r : List S105), graph_loops.l0 k l x y z = some r → r.length ≤ 4398046511104
 | 0, _, _, _, _, _, h => by simp [graph_loops.l0] at h
 | k + 1, l, x, y, z, r, h => by
  simp only [graph_loops.l0] at h
  split at h
  ·split at h
   ·split at h
    ·split at h
     ·obtain rfl := Option.some.inj h
      exact Nat.zero_le _
     ·exact loops_l0_len k _ _ _ _ _ h
    ·cases h
   ·cases h
  ·exact loops_l1_len k _ _ _ _ _ h
theorem loops_len {k : Nat} {l : List S105} {x y : Int} {r : List S105} (h : graph_loops.f k l x y = some r) : r.length ≤ 4398046511104 := loops_l0_len k _ _ _ _ _ h
theorem relax_len (k : Nat) (n start : Int) (x : Nat) : ∀ (l : List S105) (s : FSt) (q : List Int) (lp : List S105), relax k n start x l s q = some (.inl lp) → lp.length ≤ 4398046511104
 | [], s, q, lp, h => by simp [relax] at h
 | a :: rs, s, q, lp, h => by
  simp only [relax] at h
  split at h
  ·exact relax_len k n start x rs _ _ _ h
  ·obtain ⟨l, hl, h2⟩ := Option.bind_eq_some_iff.1 h
   split at h2
   ·split at h2
    ·exact relax_len k n start x rs _ _ _ h2
    ·exact relax_len k n start x rs _ _ _ h2
   ·injection h2 with h2
    injection h2 with h2
    subst h2
    split at hl
    ·exact loops_len hl
    ·obtain rfl := Option.some.inj hl
     exact Nat.zero_le _
theorem farL_len (n start : Int) (rows : List (List S105)) : ∀ (k : Nat) (s : FSt) (q : List Int) (lp : List S105), farL n start rows k s q = some (.loop lp) → lp.length ≤ 4398046511104
 | 0, _, _, _, h => by simp [farL] at h
 | k + 1, s, [], lp, h => by simp [farL] at h
 | k + 1, s, x :: q, lp, h => by
  simp only [farL] at h
  obtain ⟨r, hr, h2⟩ := Option.bind_eq_some_iff.1 h
  cases r with
  | inl l =>
   injection h2 with h2
   injection h2 with h2
   subst h2
   exact relax_len _ _ _ _ _ _ _ _ hr
  | inr p => exact farL_len n start rows k _ _ _ h2
theorem search_len {k n : Nat} {l : List S44} {which : List Int} {start : Int} {lp : List S105} (h : search k n l which start = some (.loop lp)) : lp.length ≤ 4398046511104 := farL_len _ _ _ _ _ _ _ h
set_option maxHeartbeats 4000000 in
set_option maxRecDepth 100000 in
theorem used_any (l : List S105) (A : Option Addr) (c : Nat) (w : World) (hr : Kd.C k105 w A l.length l) (hc : l.length ≤ c) (hlen : l.length ≤ 4398046511104) :
  Calls Try.prog 78 #[.slice A l.length c] w fun e w' => ∃ v, e = .returned v ∧ Kd.R (Kd.int .i64) 3 w' w.heap.size (fun _ => True) v (usedL l) ∧ Below w.heap.size w w' := by
 have HR := Aside0.mk hr
 have HC := Aside0.mk hc
 have HL := Aside0.mk hlen
 have HB := Aside0.mk (Below.refl w.heap.size w)
 have HM := Aside0.mk hr.2.1
 have hu105 := Try.underlying105
 clear hr hc hlen
 go_enter Try.func78, Try.ntmps78
 go_wp2
 go_loopg [3, 8] l.length (fun kq v3 v8 w' => ∃ (i : Nat), v8 = .int .i64 (i : Int) ∧ Aside0 (kq + i = l.length) ∧ Aside0 (Kd.R (Kd.int .i64) 3 w' w.heap.size (fun _ => True) v3 (bysL (l.take i))) ∧ Aside0 (Below w.heap.size w w'))
 case atStart => exact ⟨0, rfl, ⟨rfl⟩, ⟨Kd.R_nil _ _ _ _ _⟩, HB⟩
 case round =>
  clear HB
  obtain ⟨i, rfl, HK, HO, HB⟩ := hrel
  by_cases hlt : i < l.length
  ·obtain ⟨ad, e, q0, q1, q2, q3⟩ := at_T105 HR.out (i : Int) (by omega) (by omega)
   cases e
   replace q0 := (HB.out.cell (World.block_lt_of_cell? w _ q0)).trans q0
   replace q1 := (HB.out.cell (World.block_lt_of_cell? w _ q1)).trans q1
   replace q2 := (HB.out.cell (World.block_lt_of_cell? w _ q2)).trans q2
   replace q3 := (HB.out.cell (World.block_lt_of_cell? w _ q3)).trans q3
   simp only [Int.toNat_natCast] at q0 q1 q2 q3
   obtain ⟨a, ha⟩ : ∃ a, rd_T105 l i = a := ⟨_, rfl⟩
   have HTK := Aside0.mk (take105 hlt)
   rw [ha] at HTK q0 q1 q2 q3
   clear ha
   have hlt2 : (i : Int) < (l.length : Int) := by omega
   have hwi : wrap64 ((i : Int) + 1) = (i : Int) + 1 := by have := HL.out; unfold wrap64; omega
   have HN := Aside0.mk (show (bysL (l.take i)).length ≤ 4398046511104 by have h1 := bysL_length (l.take i); rw [List.length_take] at h1; have h2 := HL.out; omega)
   have HTB := Aside0.mk (show bysL (l.take (i + 1)) = if 0 ≤ a.f3 then bysL (l.take i) ++ [a.f3] else bysL (l.take i) by rw [HTK.out, bysL_snoc])
   by_cases h3 : 0 ≤ a.f3
   ·have hd : decide (0 ≤ a.f3) = true := decide_eq_true h3
    rw [if_pos h3] at HTB
    clear h3
    generalize bysL (l.take i) = acc at HO HN HTB
    go_wp2_with (first | ((with_reducible refine gate_builtin (b := .append) (xs := #[.tmp 15, .tmp 18]) rfl ?_); at_builtin; refine Kd.R_append (Kd.int .i64) (w0 := w) w.heap.size rfl (.tmp 15) (.tmp 18) 25 3 (.int .i64 0) 8 rfl Try.underlying25 info3 rfl (by decide) (by omega) u3 acc a.f3 [.int .i64 a.f3] (fun _ => True) (fun _ => False) rfl (by first | rfl | (simp only [World.size_alloc]; rfl)) ?aP (fun _ hk => hk.elim) ?aF ?aO ?aB ?aS ?aL ?_; (case aP => exact rfl); (case aB => exact (by repeat (first | (with_reducible first | exact HB.out | apply below_alloc) | exact HB.out))); (case aF => exact (fun _ _ => trivial)); (case aO => exact (by (with_reducible repeat (first | apply Kd.R_alloc)); exact HO.out)); (case aS => exact (below_size (by repeat (first | (with_reducible first | exact HB.out | apply below_alloc) | exact HB.out)))); (case aL => have := HN.out; omega); intro v1 w3 ho hb hg hat; have HO2 := Aside0.mk ho; have HB2 := Aside0.mk hb; clear ho hb hg hat))
    clear hd q0 q1 q2 q3
    go_roundg (l.length - i - 1)
    case measure => have := HK.out; omega
    case rel => exact ⟨i + 1, by go_num, ⟨by omega⟩, ⟨by rw [HTB.out]; exact HO2.out⟩, HB2⟩
   ·have hd : decide (0 ≤ a.f3) = false := decide_eq_false h3
    rw [if_neg h3] at HTB
    clear h3
    go_wp2
    clear hd q0 q1 q2 q3
    go_roundg (l.length - i - 1)
    case measure => have := HK.out; omega
    case rel => exact ⟨i + 1, by go_num, ⟨by omega⟩, ⟨by rw [HTB.out]; exact Kd.R_alloc HO.out _⟩, ⟨below_alloc HB.out _⟩⟩
  ·have hi : i = l.length := by have := HK.out; omega
   have HO2 := Aside0.mk (show Kd.R (Kd.int .i64) 3 wr w.heap.size (fun _ => True) u3 (bysL l) by have := HO.out; rw [hi, List.take_length] at this; exact this)
   have HN := Aside0.mk (show (bysL l).length ≤ 4398046511104 by have h1 := bysL_length l; have h2 := HL.out; omega)
   clear hi HO
   rcases Nat.eq_zero_or_pos (bysL l).length with h0 | h0
   ·have HU := Aside0.mk (show usedL l = [] by unfold usedL; rw [List.length_eq_zero_iff.1 h0]; simp [sortI, compI, Lib.compact, Lib.compactUpTo])
    have HE := List.length_eq_zero_iff.1 h0
    rw [HE] at HO2
    have HF := Aside0.mk (Kd.R_reads HO2.out)
    clear h0 HE
    obtain ⟨A3, c3, hv, _, _⟩ := HF.out
    subst hv
    clear HF
    go_wp2_with (fail)
    refine (sort_none A3 c3 _).mono ?_
    rintro e w3 ⟨rfl, rfl⟩
    go_wp2_with (fail)
    refine (compact_none A3 c3 _).mono ?_
    rintro e w4 ⟨rfl, rfl⟩
    go_wp2
    go_ret
    exact ⟨_, rfl, by rw [HU.out]; exact HO2.out, HB.out⟩
   ·obtain ⟨g, cap, hv, hg1, hg2, cells, hg3⟩ := Kd.R_form HO2.out h0
    subst hv
    have HG := Aside0.mk hg1
    clear h0 hg1 hg2 hg3
    go_wp2_with (fail)
    refine (sort_any g cap (bysL l) w.heap.size _ HO2.out HN.out).mono ?_
    rintro e w3 ⟨rfl, hs, hgr⟩
    have HB3 := Aside0.mk (below_grown HB.out hgr HG.out)
    have HSR := Aside0.mk hs
    clear hs hgr
    have hml : (sortI (bysL l)).length = (bysL l).length := by unfold sortI; simp
    have HML := Aside0.mk hml
    rw [← hml] at HSR
    clear hml
    go_wp2_with (fail)
    have hm := compact_any g cap (sortI (bysL l)) w.heap.size w3 HSR.out
    rw [HML.out] at hm
    refine hm.mono ?_
    clear hm
    rintro e w4 ⟨rfl, hs, hgr⟩
    have HB4 := Aside0.mk (below_grown HB3.out hgr HG.out)
    have HSR := Aside0.mk hs
    clear hs hgr
    go_wp2
    go_ret
    exact ⟨_, rfl, HSR.out, HB4.out⟩
set_option maxHeartbeats 4000000 in
set_option maxRecDepth 100000 in
theorem ring_any (n : Nat) (l : List S44) (which : List Int) (A1 : Option Addr) (c1 : Nat) (A2 : Option Addr) (c2 : Nat) (w : World) (hs : SysOk n l) (hwh : Which l which) (hw3 : which.length ≤ 4398046511104)
  (hr1 : Kd.C k44 w A1 l.length l) (hc1 : l.length ≤ c1) (hr2 : Kd.C (Kd.int .i64) w A2 which.length which) (hc2 : which.length ≤ c2) :
  Calls Try.prog 79 #[.int .i64 (n : Int), .slice A1 l.length c1, .slice A2 which.length c2] w fun e w' => e = .returned (.bool false) ∧ Below w.heap.size w w' := by
 have HS := Aside0.mk hs
 have HR1 := Aside0.mk hr1
 have HC1 := Aside0.mk hc1
 have HR2 := Aside0.mk hr2
 have HW := Aside0.mk hwh
 have hn := hs.n1
 have HC2 := Aside0.mk hc2
 have HM2 := Aside0.mk hr2.2.1
 have hmk : ∀ W : World, (Instr.makeSlice 25 (.int .i64 (n : Int)) (.int .i64 (n : Int))).run Try.prog W = .ok (.slice (some ⟨W.heap.size, 0, none⟩) n n) (W.alloc (.cells (encI (List.replicate n 0)) 3)) := fun W => by
  have h := make_cells Try.prog 25 3 (.int .i64 0) 1 8 Try.underlying25 info3 n (by omega) (by omega) W
  rw [madeI] at h
  exact h
 clear hs hr1 hc1 hr2 hc2 hwh hw3
 have HB := Aside0.mk (below_alloc (Below.refl w.heap.size w) (.cells (encI (List.replicate n 0)) 3))
 go_enter Try.func79, Try.ntmps79
 go_wp2
 clear hmk
 generalize w.alloc (.cells (encI (List.replicate n 0)) 3) = wa at HB ⊢
 go_loopg [19] 1 (fun kq v19 w' => v19 = .int .i64 0 ∧ Aside0 (Below w.heap.size w w'))
 case atStart => exact ⟨rfl, HB⟩
 case round =>
  clear HB
  obtain ⟨rfl, HB⟩ := hrel
  cases which with
  | nil =>
   have hz : decide ((0 : Int) < (([] : List Int).length : Int)) = false := rfl
   go_wp2
   repeat (go_quiet (fail))
   (try go_wp2)
   go_ret
   exact ⟨rfl, HB.out⟩
  | cons i which =>
   have hx0 := HW.out i List.mem_cons_self
   have hl0 : (0 : Int) < ((i :: which).length : Int) := by simp only [List.length_cons]; omega
   have hd : decide ((0 : Int) < ((i :: which).length : Int)) = true := decide_eq_true hl0
   obtain ⟨ad2, e2, q0⟩ := Kd.at_int HR2.out (0 : Int) (Int.le_refl _) hl0
   cases e2
   replace q0 := (HB.out.cell (World.block_lt_of_cell? w _ q0)).trans q0
   rw [show rd (i :: which) 0 = i from rfl] at q0
   obtain ⟨ad1, A3, c3, A5, c5, e1, q1, q2, q3, q4, l1, g1, l3, g3⟩ := at_T44 HR1.out i hx0.1 hx0.2
   cases e1
   replace q1 := (HB.out.cell (World.block_lt_of_cell? w _ q1)).trans q1
   replace q2 := (HB.out.cell (World.block_lt_of_cell? w _ q2)).trans q2
   replace q3 := (HB.out.cell (World.block_lt_of_cell? w _ q3)).trans q3
   replace q4 := (HB.out.cell (World.block_lt_of_cell? w _ q4)).trans q4
   have HFIT := Aside0.mk (HS.out.fit _ (mem_rd44 hx0.1 hx0.2))
   obtain ⟨cc, hcc⟩ : ∃ cc, rd_T44 l i = cc := ⟨_, rfl⟩
   rw [hcc] at q1 q2 q3 q4 l1 g1 l3 g3 HFIT
   clear hcc
   have G1 := Aside0.mk g1
   have G3 := Aside0.mk g3
   have L1 := Aside0.mk l1
   have L3 := Aside0.mk l3
   clear g1 g3 l1 l3
   have hx1 := hx0.1
   have hx2 := hx0.2
   clear hx0
   have ea : ad2.add 0 = ad2 := Addr.add_zero' ad2
   rw [Int.toNat_zero, ea] at q0
   clear ea
   go_wp2_with (fail)
   refine (graph_arcs.calls 10 (n : Int) i cc.f0.f0 A3 c3 cc.f0.f1 cc.f1.f0 A5 c5 cc.f1.f1 (arcsOf (n : Int) i cc) _ (Kd.C_below G1.out HB.out) L1.out (Kd.C_below G3.out HB.out) L3.out (arcs_eq (n : Int) i cc HFIT.out (by omega) 10 (by omega))).mono ?_
   rintro e w2 ⟨va, rfl, ha, hb⟩
   clear q0 q1 q2 q3 q4 hx1 hx2
   have HB2 := Aside0.mk (below_step HB.out hb)
   have HBO := bnd_ok (n := (n : Int)) HFIT.out (by omega)
   obtain ⟨L, hL⟩ : ∃ L, L = arcsOf (n : Int) i cc := ⟨_, rfl⟩
   have hp : 0 < L.length := by rw [hL]; simp [arcsOf]
   have hl9 := (arcs_len (n := (n : Int)) (i := i) HFIT.out).1
   have h0f : (rd_T105 L 0).f0 = (n : Int) ∧ (rd_T105 L 0).f1 = (bndOf (n : Int) cc.f1).1 := by rw [hL]; exact ⟨rfl, rfl⟩
   rw [← hL] at ha hl9
   clear hL
   obtain ⟨b, cap, hv, _, _, _⟩ := Kd.R_form ha hp
   subst hv
   obtain ⟨ad, e, q0, q1, _, _⟩ := at_T105 (Kd.R_reads' ha).2.2 (0 : Int) (by omega) (by omega)
   injection e with e
   subst e
   rw [h0f.1] at q0
   rw [h0f.2] at q1
   obtain ⟨t_, hto⟩ : ∃ t_, (bndOf (n : Int) cc.f1).1 = t_ := ⟨_, rfl⟩
   rw [hto] at q1 HBO
   simp only [Int.toNat_zero, Nat.zero_mul, add_plain, Nat.zero_add] at q0 q1
   have hto1 := HBO.1
   have hto2 := HBO.2.1
   have hne : (((L.length : Nat) : Int) == 0) = false := beq_eq_false_iff_ne.mpr (by omega)
   have hge : (1 : Int) ≤ (L.length : Int) := by omega
   clear hl9 h0f hto HBO ha hb HB
   by_cases ht : (n : Int) = t_
   ·have hd2 : ((n : Int) == t_) = true := beq_iff_eq.mpr ht
    clear ht
    go_wp2
    go_quiet (fail)
    go_wp2
    go_ret
    exact ⟨rfl, below_step HB2.out (pw_below_drewN (Below.refl _ _) _)⟩
   ·have hd2 : ((n : Int) == t_) = false := beq_eq_false_iff_ne.mpr ht
    clear ht
    go_wp2
    go_quiet (fail)
    have HB3 := Aside0.mk (below_step HB2.out (pw_below_drewN (Below.refl _ _) nq))
    replace q0 : (w2.drewN nq).cell? ⟨b, 0, none⟩ = _ := q0
    replace q1 : (w2.drewN nq).cell? ⟨b, 1, none⟩ = _ := q1
    generalize w2.drewN nq = w3 at q0 q1 HB3 ⊢
    have hnt : ((n : Int) < t_) = False := eq_false (by omega)
    go_wp2
    refine start_ (n := 20) (S := fun w' => w'.cell? ⟨b, 0, none⟩ = some (.int .i64 (n : Int)) ∧ w'.cell? ⟨b, 1, none⟩ = some (.int .i64 t_)) (ds := []) #[false, false, false, false, false, false, false, false, false, false, false, false, false, false, false, false, false, false, false, false] (by kernel_rfl) rfl rfl ⟨q0, q1⟩ (fun hHeld => ?_)
    refine pure_ (i := 0) (N := some 44) (v := ?_) (a' := ?_) #[true, false, false, false, false, false, false, false, false, false, false, false, false, false, false, false, false, false, false, false] rfl rfl (by kernel_rfl) (fun _ _ _ h => h) (Or.inl ⟨by rfl, ?_⟩) ?_ ?_
    rotate_left
    ·intro w'
     go_simp
     with_reducible rfl
    rotate_left
    ·simp only [Act.put, List.setIfInBounds_toArray, List.set_cons_zero, List.set_cons_succ, i64_w, i32_w]
     rfl
    refine pure_ (i := 1) (N := some 45) (v := ?_) (a' := ?_) #[true, true, false, false, false, false, false, false, false, false, false, false, false, false, false, false, false, false, false, false] rfl rfl (by kernel_rfl) (fun _ _ _ h => h) (Or.inl ⟨by rfl, ?_⟩) ?_ ?_
    rotate_left
    ·intro w'
     go_simp
     with_reducible rfl
    rotate_left
    ·simp only [Act.put, List.setIfInBounds_toArray, List.set_cons_zero, List.set_cons_succ, i64_w, i32_w]
     rfl
    refine pure_ (i := 2) (N := some 46) (v := ?_) (a' := ?_) #[true, true, true, false, false, false, false, false, false, false, false, false, false, false, false, false, false, false, false, false] rfl rfl (by kernel_rfl) (fun _ _ _ h => h) (Or.inl ⟨by rfl, ?_⟩) ?_ ?_
    rotate_left
    ·intro w'
     go_simp
     with_reducible rfl
    rotate_left
    ·simp only [Act.put, List.setIfInBounds_toArray, List.set_cons_zero, List.set_cons_succ, i64_w, i32_w]
     rfl
    refine take_ (i := 3) (N := some 47) (v := ?_) (a' := ?_) #[true, true, true, true, false, false, false, false, false, false, false, false, false, false, false, false, false, false, false, false] rfl rfl (by kernel_rfl) (fun _ _ _ h => h) (Or.inl ⟨by rfl, ?_⟩) hHeld ?_ ?_
    rotate_left
    ·rintro w' ⟨s0, s1⟩
     go_simp
     with_reducible rfl
    rotate_left
    ·simp only [Act.put, List.setIfInBounds_toArray, List.set_cons_zero, List.set_cons_succ, i64_w, i32_w]
     rfl
    refine pure_ (i := 4) (N := some 48) (v := ?_) (a' := ?_) #[true, true, true, true, true, false, false, false, false, false, false, false, false, false, false, false, false, false, false, false] rfl rfl (by kernel_rfl) (fun _ _ _ h => h) (Or.inl ⟨by rfl, ?_⟩) ?_ ?_
    rotate_left
    ·intro w'
     go_simp
     with_reducible rfl
    rotate_left
    ·simp only [Act.put, List.setIfInBounds_toArray, List.set_cons_zero, List.set_cons_succ, i64_w, i32_w]
     rfl
    refine pure_ (i := 5) (N := some 49) (v := ?_) (a' := ?_) #[true, true, true, true, true, true, false, false, false, false, false, false, false, false, false, false, false, false, false, false] rfl rfl (by kernel_rfl) (fun _ _ _ h => h) (Or.inl ⟨by rfl, ?_⟩) ?_ ?_
    rotate_left
    ·intro w'
     go_simp
     with_reducible rfl
    rotate_left
    ·simp only [Act.put, List.setIfInBounds_toArray, List.set_cons_zero, List.set_cons_succ, i64_w, i32_w]
     rfl
    refine pure_ (i := 6) (N := some 50) (v := ?_) (a' := ?_) #[true, true, true, true, true, true, true, false, false, false, false, false, false, false, false, false, false, false, false, false] rfl rfl (by kernel_rfl) (fun _ _ _ h => h) (Or.inl ⟨by rfl, ?_⟩) ?_ ?_
    rotate_left
    ·intro w'
     go_simp
     with_reducible rfl
    rotate_left
    ·simp only [Act.put, List.setIfInBounds_toArray, List.set_cons_zero, List.set_cons_succ, i64_w, i32_w]
     rfl
    refine take_ (i := 7) (N := some 51) (v := ?_) (a' := ?_) #[true, true, true, true, true, true, true, true, false, false, false, false, false, false, false, false, false, false, false, false] rfl rfl (by kernel_rfl) (fun _ _ _ h => h) (Or.inl ⟨by rfl, ?_⟩) hHeld ?_ ?_
    rotate_left
    ·rintro w' ⟨s0, s1⟩
     go_simp
     with_reducible rfl
    rotate_left
    ·simp only [Act.put, List.setIfInBounds_toArray, List.set_cons_zero, List.set_cons_succ, i64_w, i32_w]
     rfl
    refine pure_ (i := 8) (N := some 52) (v := ?_) (a' := ?_) #[true, true, true, true, true, true, true, true, true, false, false, false, false, false, false, false, false, false, false, false] rfl rfl (by kernel_rfl) (fun _ _ _ h => h) (Or.inl ⟨by rfl, ?_⟩) ?_ ?_
    rotate_left
    ·intro w'
     go_simp
     with_reducible rfl
    rotate_left
    ·simp only [Act.put, List.setIfInBounds_toArray, List.set_cons_zero, List.set_cons_succ, i64_w, i32_w]
     rfl
    refine pure_ (i := 9) (N := some 53) (v := ?_) (a' := ?_) #[true, true, true, true, true, true, true, true, true, true, false, false, false, false, false, false, false, false, false, false] rfl rfl (by kernel_rfl) (fun _ _ _ h => h) (Or.inl ⟨by rfl, ?_⟩) ?_ ?_
    rotate_left
    ·intro w'
     go_simp
     with_reducible rfl
    rotate_left
    ·simp only [Act.put, List.setIfInBounds_toArray, List.set_cons_zero, List.set_cons_succ, i64_w, i32_w]
     rfl
    refine pure_ (i := 10) (N := some 54) (v := ?_) (a' := ?_) #[true, true, true, true, true, true, true, true, true, true, true, false, false, false, false, false, false, false, false, false] rfl rfl (by kernel_rfl) (fun _ _ _ h => h) (Or.inl ⟨by rfl, ?_⟩) ?_ ?_
    rotate_left
    ·intro w'
     go_simp
     with_reducible rfl
    rotate_left
    ·simp only [Act.put, List.setIfInBounds_toArray, List.set_cons_zero, List.set_cons_succ, i64_w, i32_w]
     rfl
    refine pure_ (i := 11) (N := some 55) (v := ?_) (a' := ?_) #[true, true, true, true, true, true, true, true, true, true, true, true, false, false, false, false, false, false, false, false] rfl rfl (by kernel_rfl) (fun _ _ _ h => h) (Or.inl ⟨by rfl, ?_⟩) ?_ ?_
    rotate_left
    ·intro w'
     go_simp
     with_reducible rfl
    rotate_left
    ·simp only [Act.put, List.setIfInBounds_toArray, List.set_cons_zero, List.set_cons_succ, i64_w, i32_w]
     rfl
    refine take_ (i := 12) (N := some 56) (v := ?_) (a' := ?_) #[true, true, true, true, true, true, true, true, true, true, true, true, true, false, false, false, false, false, false, false] rfl rfl (by kernel_rfl) (fun _ _ _ h => h) (Or.inl ⟨by rfl, ?_⟩) hHeld ?_ ?_
    rotate_left
    ·rintro w' ⟨s0, s1⟩
     go_simp
     with_reducible rfl
    rotate_left
    ·simp only [Act.put, List.setIfInBounds_toArray, List.set_cons_zero, List.set_cons_succ, i64_w, i32_w]
     rfl
    refine pure_ (i := 13) (N := some 57) (v := ?_) (a' := ?_) #[true, true, true, true, true, true, true, true, true, true, true, true, true, true, false, false, false, false, false, false] rfl rfl (by kernel_rfl) (fun _ _ _ h => h) (Or.inl ⟨by rfl, ?_⟩) ?_ ?_
    rotate_left
    ·intro w'
     go_simp
     with_reducible rfl
    rotate_left
    ·simp only [Act.put, List.setIfInBounds_toArray, List.set_cons_zero, List.set_cons_succ, i64_w, i32_w]
     rfl
    refine pure_ (i := 14) (N := some 58) (v := ?_) (a' := ?_) #[true, true, true, true, true, true, true, true, true, true, true, true, true, true, true, false, false, false, false, false] rfl rfl (by kernel_rfl) (fun _ _ _ h => h) (Or.inl ⟨by rfl, ?_⟩) ?_ ?_
    rotate_left
    ·intro w'
     go_simp
     with_reducible rfl
    rotate_left
    ·simp only [Act.put, List.setIfInBounds_toArray, List.set_cons_zero, List.set_cons_succ, i64_w, i32_w]
     rfl
    refine pure_ (i := 15) (N := some 59) (v := ?_) (a' := ?_) #[true, true, true, true, true, true, true, true, true, true, true, true, true, true, true, true, false, false, false, false] rfl rfl (by kernel_rfl) (fun _ _ _ h => h) (Or.inl ⟨by rfl, ?_⟩) ?_ ?_
    rotate_left
    ·intro w'
     go_simp
     with_reducible rfl
    rotate_left
    ·simp only [Act.put, List.setIfInBounds_toArray, List.set_cons_zero, List.set_cons_succ, i64_w, i32_w]
     rfl
    refine take_ (i := 16) (N := some 60) (v := ?_) (a' := ?_) #[true, true, true, true, true, true, true, true, true, true, true, true, true, true, true, true, true, false, false, false] rfl rfl (by kernel_rfl) (fun _ _ _ h => h) (Or.inl ⟨by rfl, ?_⟩) hHeld ?_ ?_
    rotate_left
    ·rintro w' ⟨s0, s1⟩
     go_simp
     with_reducible rfl
    rotate_left
    ·simp only [Act.put, List.setIfInBounds_toArray, List.set_cons_zero, List.set_cons_succ, i64_w, i32_w]
     rfl
    refine pure_ (i := 17) (N := some 61) (v := ?_) (a' := ?_) #[true, true, true, true, true, true, true, true, true, true, true, true, true, true, true, true, true, true, false, false] rfl rfl (by kernel_rfl) (fun _ _ _ h => h) (Or.inl ⟨by rfl, ?_⟩) ?_ ?_
    rotate_left
    ·intro w'
     go_simp
     with_reducible rfl
    rotate_left
    ·simp only [Act.put, List.setIfInBounds_toArray, List.set_cons_zero, List.set_cons_succ, i64_w, i32_w]
     rfl
    refine pure_ (i := 18) (N := some 11) (v := ?_) (a' := ?_) #[true, true, true, true, true, true, true, true, true, true, true, true, true, true, true, true, true, true, true, false] rfl rfl (by kernel_rfl) (fun _ _ _ h => h) (Or.inl ⟨by rfl, ?_⟩) ?_ ?_
    rotate_left
    ·intro w'
     go_simp
     with_reducible rfl
    rotate_left
    ·simp only [Act.put, List.setIfInBounds_toArray, List.set_cons_zero, List.set_cons_succ, i64_w, i32_w]
     rfl
    refine pure_ (i := 19) (N := some 12) (v := ?_) (a' := ?_) #[true, true, true, true, true, true, true, true, true, true, true, true, true, true, true, true, true, true, true, true] rfl rfl (by kernel_rfl) (fun _ _ _ h => h) (Or.inl ⟨by rfl, ?_⟩) ?_ ?_
    rotate_left
    ·intro w'
     go_simp
     with_reducible rfl
    rotate_left
    ·simp only [Act.put, List.setIfInBounds_toArray, List.set_cons_zero, List.set_cons_succ, i64_w, i32_w]
     rfl
    refine done_ (by kernel_rfl) ?_
    have HH := Aside0.mk hHeld
    clear q0 q1 hd2 hne hge
    go_wp2
    all_goals
     go_ret
     exact ⟨rfl, below_drew HB3.out⟩
end Go.Proofs.Ytegejpcglabhbaa.G
