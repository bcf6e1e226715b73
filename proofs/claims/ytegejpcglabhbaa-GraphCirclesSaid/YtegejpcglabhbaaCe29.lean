/- A part of this claim's proof: texts of its author, and printed ones, packed by a program of its author's. -/
import Derived.Test.YtegejpcglabhbaaCe23
namespace Go.Proofs.Ytegejpcglabhbaa.G
open Go.RowKit Go.Proofs.YtegejpcglabhbaaW.PrintWords Go.Proofs.YtegejpcglabhbaaW.PrintLast Go.Proofs.YtegejpcglabhbaaW.PrintMore
set_option linter.unusedVariables false
set_option linter.unusedSimpArgs false
set_option maxHeartbeats 8000000 in
set_option maxRecDepth 100000 in
theorem graph_Classes.calls (k : Nat) (a0 : Int) (A1 : Option Addr) (c1 : Nat) (l1 : List (S44)) (r1 : List (List Int)) (r2 : Int) (w : World) (hr1 : Kd.C k44 w A1 l1.length l1) (hc1 : l1.length ≤ c1) (h : graph_Classes.f k a0 l1 = some (r1, r2)) :
  Calls Try.prog 38 #[.int .i64 a0, .slice A1 l1.length c1] w fun e w' => ∃ v0_ : Value, e = .returned (.tuple #[v0_, .int .i64 r2]) ∧ Kd.S (Kd.slice 3 (Kd.int .i64)) 25 w' w.heap.size (fun _ => True) v0_ r1 ∧ Below w.heap.size w w' := by
 have HR := Aside0.mk hr1
 have HC := Aside0.mk hc1
 have H := Aside0.mk h
 clear hr1 hc1 h
 go_enter Try.func38, Try.ntmps38
 go_wp2_with (fail)
 refine (graph_Valid.calls a0 A1 c1 l1 (validB a0 l1) _ HR.out HC.out rfl).mono ?_
 rintro e w1 ⟨rfl, hb⟩
 have HB := Aside0.mk hb
 clear hb
 have H2 := H.out
 unfold graph_Classes.f at H2
 cases hv : validB a0 l1 with
 | false =>
  rw [hv, if_neg (by decide)] at H2
  obtain ⟨rfl, rfl⟩ := Prod.mk.inj (Option.some.inj H2)
  clear hv H2 H
  go_wp2
  (try simp only [Exit.inBlock, Exit.then])
  refine bodyPost_ret (results_list (rs := [.tmp 4, .tmp 5]) rfl (by simp) (.tmp (.tmp .nil))) rfl ?_
  exact ⟨_, rfl, Kd.S_nil _ _ _ _ _, HB.out⟩
 | true =>
 rw [hv, if_pos rfl] at H2
 obtain ⟨n, rfl, hs⟩ := valid_ok hv
 have HS := Aside0.mk hs
 rw [Int.toNat_natCast] at H2
 clear hv hs H
 unfold classesN at H2
 obtain ⟨⟨s1, s2⟩, hso, H3⟩ := Option.bind_eq_some_iff.1 H2
 have HSOL := Aside0.mk hso
 have H := Aside0.mk H3
 clear H2 H3 hso
 go_wp2_with (fail)
 refine (solved_any k n l1 A1 c1 _ HS.out (Kd.C_below HR.out HB.out) HC.out s1 s2 HSOL.out).mono ?_
 rintro e w2 ⟨vs, rfl, hvs, hb⟩
 have HB := Aside0.mk (below_step HB.out hb)
 clear hb HSOL
 by_cases h5 : s2 = 0
 case neg =>
  have H2 := H.out
  rw [if_neg h5] at H2
  obtain ⟨rfl, rfl⟩ := Prod.mk.inj (Option.some.inj H2)
  have hd5 : (s2 != 0) = true := by simpa using h5
  clear H2 H h5
  go_wp2
  (try simp only [Exit.inBlock, Exit.then])
  refine bodyPost_ret (results_list (rs := [.tmp 4, .tmp 5]) rfl (by simp) (.tmp (.tmp .nil))) rfl ?_
  exact ⟨_, rfl, Kd.S_nil _ _ _ _ _, HB.out⟩
 have H2 := H.out
 rw [if_pos h5] at H2
 subst h5
 by_cases hsl : s1.length = n
 case neg => rw [if_neg hsl] at H2; cases H2
 rw [if_pos hsl] at H2
 obtain ⟨r, hr, H3⟩ := Option.map_eq_some_iff.1 H2
 obtain ⟨rfl, rfl⟩ := Prod.mk.inj H3
 replace H := Aside0.mk hr
 have HSL := Aside0.mk hsl
 clear H2 H3 hr hsl
 obtain ⟨As, cs, hs2, hs3, hsF⟩ := hvs
 subst hs2
 have HV := Aside0.mk (Kd.F_now hsF)
 have HVC := Aside0.mk hs3
 clear hsF hs3
 have hn := HS.out.n1
 have hmk : ∀ W : World, (Instr.makeSlice 54 (.int .i64 ((n : Int) + 1)) (.int .i64 ((n : Int) + 1))).run Try.prog W = .ok (.slice (some ⟨W.heap.size, 0, none⟩) (n + 1) (n + 1)) (W.alloc (.cells (Array.replicate (n + 1) (Value.slice none 0 0)) 25)) := fun W => by
  have h := run_make_row' (P := Try.prog) 54 25 (.slice none 0 0) 24 Try.underlying54 info25 rfl .i64 .i64 (n + 1) (by omega) (by omega) W
  have e : madeCells #[Value.slice none 0 0] (n + 1) = Array.replicate (n + 1) (Value.slice none 0 0) := by
   apply Array.ext
   ·simp [madeCells]
   ·intro i h1 h2
    simp [madeCells, Nat.mod_one]
  rw [e] at h
  exact h
 rw [HSL.out]
 go_wp2_with (fail)
 clear hmk
 have hT := Aside0.mk (fun base => two_made w2 (n + 1) base)
 have hB := Aside0.mk (fun base => two_made (w2.alloc (.cells (Array.replicate (n + 1) (Value.slice none 0 0)) 25)) (n + 1) base)
 have hb : Below w2.heap.size w2 ((w2.alloc (.cells (Array.replicate (n + 1) (Value.slice none 0 0)) 25)).alloc (.cells (Array.replicate (n + 1) (Value.slice none 0 0)) 25)) := below_alloc (below_alloc (Below.refl _ _) _) _
 have hb1 : Below (w2.alloc (.cells (Array.replicate (n + 1) (Value.slice none 0 0)) 25)).heap.size (w2.alloc (.cells (Array.replicate (n + 1) (Value.slice none 0 0)) 25)) ((w2.alloc (.cells (Array.replicate (n + 1) (Value.slice none 0 0)) 25)).alloc (.cells (Array.replicate (n + 1) (Value.slice none 0 0)) 25)) := below_alloc (Below.refl _ _) _
 replace hT := Aside0.mk (fun base => (hT.out base).below hb1)
 simp only [World.size_alloc] at hB
 have HG := Aside0.mk HB.out.size
 replace HB := Aside0.mk (below_step HB.out hb)
 replace HV := Aside0.mk (Kd.C_below HV.out hb)
 clear hb hb1
 generalize (w2.alloc (.cells (Array.replicate (n + 1) (Value.slice none 0 0)) 25)).alloc (.cells (Array.replicate (n + 1) (Value.slice none 0 0)) 25) = w3 at hT hB HB HV ⊢
 obtain ⟨tb, htb⟩ : ∃ tb, w2.heap.size = tb := ⟨_, rfl⟩
 rw [htb] at hT hB HG ⊢
 clear htb
 obtain ⟨bb, hbb⟩ : ∃ bb, tb + 1 = bb := ⟨_, rfl⟩
 have HNE := Aside0.mk (show tb ≠ bb by omega)
 have HG2 := Aside0.mk (show w.heap.size ≤ bb by have := HG.out; omega)
 rw [hbb] at hB ⊢
 clear hbb
 have hm := cloneI As cs s1 w3 HV.out HVC.out (by rw [HSL.out]; omega)
 rw [HSL.out] at hm
 refine hm.mono ?_
 clear hm
 rintro e w4 ⟨v, rfl, hv, hb⟩
 replace hT := Aside0.mk (fun base => (hT.out base).below hb)
 replace hB := Aside0.mk (fun base => (hB.out base).below hb)
 have HVR := Aside0.mk (Kd.R_lower hv HB.out.size)
 replace HB := Aside0.mk (below_step HB.out hb)
 clear hb hv HV HVC
 go_wp2_with (first | ((with_reducible refine gate_builtin (b := .append) (xs := #[.tmp 42, .tmp 43]) rfl ?_); at_builtin; refine Kd.R_append (Kd.int .i64) (w0 := w) w.heap.size rfl (.tmp 42) (.tmp 43) 25 3 (.int .i64 0) 8 rfl Try.underlying25 info3 rfl (by decide) (by omega) v s1 0 [.int .i64 0] (fun _ => True) (fun _ => False) rfl rfl ?aP (fun _ hk => hk.elim) ?aF ?aO ?aB ?aS ?aL ?_; (case aP => exact rfl); (case aB => exact HB.out); (case aF => exact (fun _ _ => trivial)); (case aO => exact HVR.out); (case aS => exact HB.out.size); (case aL => have := HSL.out; omega); intro v10 w5 ho hb hg hat))
 obtain ⟨value, hval⟩ : ∃ value, value = s1 ++ [0] := ⟨_, rfl⟩
 rw [← hval] at ho
 have HVL := Aside0.mk (show value.length = n + 1 by rw [hval, List.length_append, HSL.out]; rfl)
 rw [← hval] at H
 clear hval
 have hold : ∀ o, (∀ base, RowsI w4 base o (List.replicate (n + 1) (Value.slice none 0 0)) (List.replicate (n + 1) [])) → ∀ base, RowsI w5 base o (List.replicate (n + 1) (Value.slice none 0 0)) (List.replicate (n + 1) []) := fun o h base => two_none (h base) hg (Kd.R_ne HVR.out (h 0).blk (by decide))
 replace hT := Aside0.mk (hold _ hT.out)
 replace hB := Aside0.mk (hold _ hB.out)
 obtain ⟨gv, cv, hv10, hgv1, hgv2, cells, hgv3⟩ := Kd.R_form ho (by rw [HVL.out]; omega)
 rw [HVL.out] at hv10
 subst hv10
 replace HVR := Aside0.mk ho
 replace HB := Aside0.mk hb
 have HVT := Aside0.mk (show gv ≠ tb from fun e => by rw [e, (hT.out 0).blk] at hgv3; injection hgv3 with h1; injection h1 with _ h1; exact absurd h1 (by decide))
 have HVB := Aside0.mk (show gv ≠ bb from fun e => by rw [e, (hB.out 0).blk] at hgv3; injection hgv3 with h1; injection h1 with _ h1; exact absurd h1 (by decide))
 clear hold hgv1 hgv2 hgv3 ho hb hg hat cells
 go_wp2_with (fail)
 refine (graph_every.calls 0 A1 c1 l1 (upTo l1.length) _ (Kd.C_below HR.out HB.out) HC.out (by unfold graph_every.f; rw [if_pos (by have := HS.out.len; omega)])).mono ?_
 rintro e w6 ⟨v, rfl, hv, hb⟩
 replace hT := Aside0.mk (fun base => (hT.out base).below hb)
 replace hB := Aside0.mk (fun base => (hB.out base).below hb)
 replace HVR := Aside0.mk (Kd.R_below HVR.out hb)
 replace HB := Aside0.mk (below_step HB.out hb)
 obtain ⟨A2, c2, hv2⟩ := Kd.R_slice hv
 subst hv2
 have HV2 := Aside0.mk (Kd.R_reads' hv)
 clear hb hv
 rw [upTo_length]
 go_wp2_with (fail)
 have hm := made_any n l1 (upTo l1.length) A1 c1 A2 c2 w6 HS.out.n1 HS.out.len HS.out.fit (which_upTo l1) (by rw [upTo_length]; exact HS.out.len) (Kd.C_below HR.out HB.out) HC.out HV2.out.2.2 HV2.out.2.1
 rw [upTo_length] at hm
 refine hm.mono ?_
 clear hm
 rintro e w7 ⟨g, ob, vs, rfl, hg, hrows, hgg, hob, hb⟩
 have HOT := Aside0.mk (show tb < w6.heap.size from blk_lt (hT.out 0).blk)
 have HOB := Aside0.mk (show bb < w6.heap.size from blk_lt (hB.out 0).blk)
 have HW6 := Aside0.mk hob
 have HZ := Aside0.mk hb.size
 replace hT := Aside0.mk (fun base => (hT.out base).below hb)
 replace hB := Aside0.mk (fun base => (hB.out base).below hb)
 replace HVR := Aside0.mk (Kd.R_below HVR.out hb)
 replace HB := Aside0.mk (below_step HB.out hb)
 have BG := Aside0.mk hg
 have HRW := Aside0.mk hrows
 clear hg hrows hgg hob hb HV2
 obtain ⟨rows, hrows⟩ : ∃ rows, rows = rowsOf (n + 1) (allArcs n l1 (upTo l1.length)) := ⟨_, rfl⟩
 have HLR := Aside0.mk (show rows.length = n + 1 by rw [hrows, rowsOf_length])
 have HRL := Aside0.mk (show ∀ (i : Nat) (r : List S105), rows[i]? = some r → r.length ≤ 30000 from fun i r hi => by
  rw [hrows] at hi
  have h1 := rowsOf_row _ _ _ _ hi
  have h2 := flat_len (fun i => arcsOf n i (rd_T44 l1 i)) 9 (upTo l1.length) (fun y hy => by
   have := which_upTo l1 y hy
   exact (arcs_len (HS.out.fit _ (mem_rd44 this.1 this.2))).1)
  rw [upTo_length] at h2
  have h3 := HS.out.len
  unfold allArcs at h1
  rw [List.length_append] at h1
  have h4 : (natArcs n).length = n := by simp [natArcs]
  omega)
 have HRA := Aside0.mk (show ∀ r ∈ rows, ∀ a ∈ r, 0 ≤ a.f1 ∧ a.f1 ≤ n by rw [hrows]; exact rows_arc HS.out.fit (which_upTo l1))
 rw [← hrows] at HRW H
 clear hrows
 have TW := Aside0.mk (show Two w7 w7 tb bb _ _ (tightUp value rows 0).1 (tightUp value rows 0).2 from ⟨by have := hT.out w7.heap.size; rw [← HLR.out] at this; exact this, by have := hB.out w7.heap.size; rw [← HLR.out] at this; exact this, HNE.out, Nat.lt_of_lt_of_le HOT.out HZ.out, Nat.lt_of_lt_of_le HOB.out HZ.out, fun i j v u hv _ => by
   obtain ⟨_, e⟩ := List.getElem?_eq_some_iff.1 hv
   rw [List.getElem_replicate] at e
   subst e
   exact .inl rfl, fun _ _ _ _ => rfl, Nat.le_refl _⟩)
 have z1 := (blk_cell BG.out 1).trans rfl
 have TL := HOT
 have BL := HOB
 clear hT hB
 have HVC := Aside0.mk (Kd.R_reads' HVR.out).2.2
 go_wp2
 clear z1 BG HOT HOB HSL HNE
 have HWZ := Aside0.mk HB.out.size
 have HOBT := Aside0.mk (show tb < w6.heap.size ∧ bb < w6.heap.size from ⟨TL.out, BL.out⟩)
 clear TL BL
 go_loopg [54] (n + 1) (fun kq v54 w' => ∃ (x : Nat) (vsT vsB : List Value), v54 = .int .i64 (x : Int) ∧ Aside0 (kq + x = n + 1) ∧ Aside0 (Two w7 w' tb bb vsT vsB (tightUp value rows x).1 (tightUp value rows x).2) ∧ Aside0 (RowLen (30000 * x) (tightUp value rows x).1) ∧ Aside0 (RowLen (30000 * x) (tightUp value rows x).2) ∧ Aside0 (Below w.heap.size w w'))
 case atStart => exact ⟨0, _, _, rfl, ⟨rfl⟩, TW, ⟨RowLen.none _ _⟩, ⟨RowLen.none _ _⟩, HB⟩
 case round =>
  clear TW HB
  obtain ⟨x, vsT, vsB, rfl, HK, TW, HLT, HLB, HB⟩ := hrel
  by_cases hlt : x < n + 1
  ·obtain ⟨v, hv, hvr, hc⟩ := RowsAt.get HRW.out x (by rw [HLR.out]; exact hlt)
   obtain ⟨row, hrow⟩ : ∃ row, row = rows.getD x [] := ⟨_, rfl⟩
   rw [← hrow] at hvr
   have hrs : rows[x]? = some row := by rw [hrow, List.getD_eq_getElem?_getD, List.getElem?_eq_getElem (by rw [HLR.out]; exact hlt)]; rfl
   have HLEN := Aside0.mk (HRL.out _ _ hrs)
   have HARC := Aside0.mk (HRA.out row (List.mem_of_getElem? hrs))
   have HUP := Aside0.mk (show tightUp value rows (x + 1) = tightRow value x row (tightUp value rows x) by rw [hrow]; rfl)
   have z0 := TW.out.cell hc (show ob ≠ tb by have h1 := HW6.out; have h2 := HOBT.out; omega) (show ob ≠ bb by have h1 := HW6.out; have h2 := HOBT.out; omega)
   obtain ⟨Ar, cr, hv2⟩ := Kd.R_slice hvr
   subst hv2
   have HRD := Aside0.mk (Kd.R_reads' hvr).2.2
   have HRB := Aside0.mk (show ∀ ad, Ar = some ad → ad.block ≠ tb ∧ ad.block ≠ bb from fun ad e => by
    have h1 := Kd.R_base hvr ad.block (by rw [e]; rfl)
    have h2 := HOBT.out
    omega)
   clear hv hvr hc hrow hrs
   have hdx : decide ((x : Int) < (n : Int) + 1) = true := decide_eq_true (by omega)
   go_wp2
   clear z0
   go_loopg [61] row.length (fun kq v61 w' => ∃ (j : Nat) (vsT vsB : List Value), v61 = .int .i64 (j : Int) ∧ Aside0 (kq + j = row.length) ∧ Aside0 (Two w7 w' tb bb vsT vsB (tightRow value x (row.take j) (tightUp value rows x)).1 (tightRow value x (row.take j) (tightUp value rows x)).2) ∧
    Aside0 (RowLen (30000 * x + j) (tightRow value x (row.take j) (tightUp value rows x)).1) ∧ Aside0 (RowLen (30000 * x + j) (tightRow value x (row.take j) (tightUp value rows x)).2) ∧ Aside0 (Below w.heap.size w w'))
   case atStart => exact ⟨0, _, _, rfl, ⟨rfl⟩, TW, HLT, HLB, HB⟩
   case round =>
    clear TW HLT HLB HB
    obtain ⟨j, vsT, vsB, rfl, HJ, TW, HLT, HLB, HB⟩ := hrel
    by_cases hjl : j < row.length
    ·have HTK := Aside0.mk (take105 hjl)
     obtain ⟨ad, e, q0, q1, q2, q3⟩ := at_T105 HRD.out (j : Int) (by omega) (by omega)
     obtain ⟨h1, h2⟩ := HRB.out ad e
     subst e
     replace q0 := TW.out.cell q0 (add_ne h1) (add_ne h2)
     replace q1 := TW.out.cell q1 (add_ne h1) (add_ne h2)
     replace q2 := TW.out.cell q2 (add_ne h1) (add_ne h2)
     replace q3 := TW.out.cell q3 (add_ne h1) (add_ne h2)
     clear h1 h2
     simp only [Int.toNat_natCast, add_plain] at q0 q1 q2 q3
     have HAJ := HARC.out _ (mem_rd105 hjl)
     obtain ⟨a, ha⟩ : ∃ a, rd_T105 row j = a := ⟨_, rfl⟩
     rw [ha] at HTK HAJ q0 q1 q2 q3
     clear ha
     obtain ⟨ha0, ha1⟩ := HAJ
     have HST := Aside0.mk (show tightRow value x (row.take (j + 1)) (tightUp value rows x) = tightStep value x (tightRow value x (row.take j) (tightUp value rows x)) a by rw [HTK.out, tightRow_snoc])
     have HTL := Aside0.mk (show (tightRow value x (row.take j) (tightUp value rows x)).1.length = n + 1 by rw [(tightRow_length _ _ _ _).1, (tightUp_length _ _ _).1, HLR.out])
     have HBL := Aside0.mk (show (tightRow value x (row.take j) (tightUp value rows x)).2.length = n + 1 by rw [(tightRow_length _ _ _ _).2, (tightUp_length _ _ _).2, HLR.out])
     generalize tightRow value x (row.take j) (tightUp value rows x) = P at TW HLT HLB HST HTL HBL
     obtain ⟨T, B⟩ := P
     clear HTK
     go_wp2
     clear q0 q1 q2 q3
     have BT := Aside0.mk (blk_new wr (.cells #[.int .i64 a.f0, .int .i64 a.f1, .int .i64 a.f2, .int .i64 a.f3] 105))
     have hbb := below_alloc (Below.refl wr.heap.size wr) (.cells #[.int .i64 a.f0, .int .i64 a.f1, .int .i64 a.f2, .int .i64 a.f3] 105)
     have TW0 := TW
     have TW := Aside0.mk (TW.out.below hbb)
     have HB := Aside0.mk (below_step HB.out hbb)
     have HBT := Aside0.mk (show w7.heap.size ≤ wr.heap.size from TW0.out.size)
     clear hbb TW0
     generalize wr.alloc (.cells #[.int .i64 a.f0, .int .i64 a.f1, .int .i64 a.f2, .int .i64 a.f3] 105) = wr at TW HB BT ⊢
     generalize (_ : World).heap.size = bt at BT HBT ⊢
     obtain ⟨ad, e, v0⟩ := Kd.at_int HVC.out a.f1 ha0 (by rw [HVL.out]; omega)
     cases e
     obtain ⟨ad, e, v1⟩ := Kd.at_int HVC.out (x : Int) (by omega) (by rw [HVL.out]; omega)
     cases e
     replace v0 := TW.out.cell v0 (add_ne HVT.out) (add_ne HVB.out)
     replace v1 := TW.out.cell v1 (add_ne HVT.out) (add_ne HVB.out)
     have y1 := (blk_cell BT.out 1).trans rfl
     have y2 := (blk_cell BT.out 2).trans rfl
     simp only [Int.toNat_natCast, add_plain] at v0 v1
     have hva : value.length = n + 1 := HVL.out
     have hx0 : (0 : Int) ≤ (x : Int) := by omega
     have hjb : wrap64 ((j : Int) + 1) = (j : Int) + 1 := by have := HLEN.out; unfold wrap64; omega
     have hx1 : (x : Int) < (n : Int) + 1 := by omega
     have ha2 : a.f1 < (n : Int) + 1 := by omega
     clear hva
     obtain ⟨y, hy⟩ : ∃ y, IntKind.i64.wrap (rd value (x : Int) + a.f2) = y := ⟨_, rfl⟩
     have HY := Aside0.mk (hy.symm.trans (i64_w _))
     go_quiet (fail)
     clear v0 v1 y1 y2 hy
     have TW := Aside0.mk (TW.out.below (pw_below_drewN (Below.refl _ _) nq))
     have HB := Aside0.mk (below_step HB.out (pw_below_drewN (Below.refl _ _) nq))
     have BT := Aside0.mk (blk_drewN BT.out nq)
     generalize wr.drewN nq = wr at TW HB BT ⊢
     by_cases hc : rd value a.f1 = y
     ·have hd : (rd value a.f1 == y) = true := beq_iff_eq.mpr hc
      have HST := Aside0.mk (show tightRow value x (List.take (j + 1) row) (tightUp value rows x) = (T.set x (T.getD x [] ++ [a.f1]), B.set a.f1.toNat (B.getD a.f1.toNat [] ++ [(x : Int)])) by rw [HST.out]; unfold tightStep; rw [if_pos (hc.trans HY.out)])
      clear hc HY
      obtain ⟨v, hv, hvr, _⟩ := TW.out.t.get x (by rw [HTL.out]; exact hlt)
      have HV := Aside0.mk hv
      obtain ⟨tr, htr⟩ : ∃ tr, tr = T.getD x [] := ⟨_, rfl⟩
      rw [← htr] at hvr HST
      have HTE := Aside0.mk htr
      have HTR := Aside0.mk (show T[x]? = some tr by rw [htr, List.getD_eq_getElem?_getD, List.getElem?_eq_getElem (by rw [HTL.out]; exact hlt)]; rfl)
      have HTN := Aside0.mk (show tr.length ≤ 40000000 by have h1 := HLT.out _ _ HTR.out; have h2 := HLEN.out; omega)
      have HVR2 := Aside0.mk hvr
      clear hv hvr htr
      go_wp2
      clear hd
      refine start_ (n := 12) (S := fun w' => w'.heap[tb]? = some (.cells vsT.toArray 25 (0, 0)) ∧ w'.heap[bt]? = some (.cells #[.int .i64 a.f0, .int .i64 a.f1, .int .i64 a.f2, .int .i64 a.f3] 105 (0, 0))) (ds := [11]) #[false, false, false, false, false, false, false, false, false, false, false, false] (by kernel_rfl) rfl rfl ⟨TW.out.t.blk, BT.out⟩ (fun hHeld => ?_)
      refine pure_ (i := 0) (N := some 78) (v := ?_) (a' := ?_) #[true, false, false, false, false, false, false, false, false, false, false, false] rfl rfl (by kernel_rfl) (fun _ _ _ h => h) (Or.inl ⟨by rfl, ?_⟩) ?_ ?_
      rotate_left
      ·intro w'
       go_simp
       with_reducible rfl
      rotate_left
      ·simp only [Act.put, List.setIfInBounds_toArray, List.set_cons_zero, List.set_cons_succ, i64_w, i32_w]
       rfl
      refine pure_ (i := 1) (N := some 79) (v := ?_) (a' := ?_) #[true, true, false, false, false, false, false, false, false, false, false, false] rfl rfl (by kernel_rfl) (fun _ _ _ h => h) (Or.inl ⟨by rfl, ?_⟩) ?_ ?_
      rotate_left
      ·intro w'
       go_simp
       with_reducible rfl
      rotate_left
      ·simp only [Act.put, List.setIfInBounds_toArray, List.set_cons_zero, List.set_cons_succ, i64_w, i32_w]
       rfl
      refine pure_ (i := 2) (N := some 80) (v := ?_) (a' := ?_) #[true, true, true, false, false, false, false, false, false, false, false, false] rfl rfl (by kernel_rfl) (fun _ _ _ h => h) (Or.inl ⟨by rfl, ?_⟩) ?_ ?_
      rotate_left
      ·intro w'
       go_simp
       with_reducible rfl
      rotate_left
      ·simp only [Act.put, List.setIfInBounds_toArray, List.set_cons_zero, List.set_cons_succ, i64_w, i32_w]
       rfl
      refine pure_ (i := 3) (N := some 81) (v := ?_) (a' := ?_) #[true, true, true, true, false, false, false, false, false, false, false, false] rfl rfl (by kernel_rfl) (fun _ _ _ h => h) (Or.inl ⟨by rfl, ?_⟩) ?_ ?_
      rotate_left
      ·intro w'
       go_simp
       with_reducible rfl
      rotate_left
      ·simp only [Act.put, List.setIfInBounds_toArray, List.set_cons_zero, List.set_cons_succ, i64_w, i32_w]
       rfl
      refine pure_ (i := 4) (N := some 82) (v := ?_) (a' := ?_) #[true, true, true, true, true, false, false, false, false, false, false, false] rfl rfl (by kernel_rfl) (fun _ _ _ h => h) (Or.inl ⟨by rfl, ?_⟩) ?_ ?_
      rotate_left
      ·intro w'
       go_simp
       with_reducible rfl
      rotate_left
      ·simp only [Act.put, List.setIfInBounds_toArray, List.set_cons_zero, List.set_cons_succ, i64_w, i32_w]
       rfl
      refine take_ (i := 5) (N := some 83) (v := ?_) (a' := ?_) #[true, true, true, true, true, true, false, false, false, false, false, false] rfl rfl (by kernel_rfl) (fun _ _ _ h => h) (Or.inl ⟨by rfl, ?_⟩) hHeld ?_ ?_
      rotate_left
      ·rintro w' ⟨s0, s1⟩
       have z0 := (blk_cell s0 x).trans (show vsT.toArray[x]? = some v by simpa using HV.out)
       have y1 := (blk_cell s1 1).trans rfl
       go_simp
       with_reducible rfl
      rotate_left
      ·simp only [Act.put, List.setIfInBounds_toArray, List.set_cons_zero, List.set_cons_succ, i64_w, i32_w]
       rfl
      refine pure_ (i := 6) (N := some 84) (v := ?_) (a' := ?_) #[true, true, true, true, true, true, true, false, false, false, false, false] rfl rfl (by kernel_rfl) (fun _ _ _ h => h) (Or.inl ⟨by rfl, ?_⟩) ?_ ?_
      rotate_left
      ·intro w'
       go_simp
       with_reducible rfl
      rotate_left
      ·simp only [Act.put, List.setIfInBounds_toArray, List.set_cons_zero, List.set_cons_succ, i64_w, i32_w]
       rfl
      refine take_ (i := 7) (N := some 85) (v := ?_) (a' := ?_) #[true, true, true, true, true, true, true, true, false, false, false, false] rfl rfl (by kernel_rfl) (fun _ _ _ h => h) (Or.inl ⟨by rfl, ?_⟩) hHeld ?_ ?_
      rotate_left
      ·rintro w' ⟨s0, s1⟩
       have z0 := (blk_cell s0 x).trans (show vsT.toArray[x]? = some v by simpa using HV.out)
       have y1 := (blk_cell s1 1).trans rfl
       go_simp
       with_reducible rfl
      rotate_left
      ·simp only [Act.put, List.setIfInBounds_toArray, List.set_cons_zero, List.set_cons_succ, i64_w, i32_w]
       rfl
      refine one_ (i := 8) (N := some 86) #[true, true, true, true, true, true, true, true, true, false, false, false] rfl rfl (by kernel_rfl) (by decide) (fun K hK => ?_)
      refine value_ (w1 := wr.drew.alloc (.cells #[.int .i64 (a.f1)] 3)) (v := .slice (some ⟨wr.drew.heap.size, 0, none⟩) 1 1) (by rfl) rfl ?_ ?_
      ·go_simp
       try rfl
      refine hK.out _ _ ⟨blk_alloc hHeld.1 _, blk_alloc hHeld.2 _⟩ (fun hHeld => ?_)
      clear hK K
      refine norm_ (a' := ?_) ?_ ?_
      rotate_left
      ·show Act.put _ (some 86) _ = _
       simp only [Act.put, List.setIfInBounds_toArray, List.set_cons_zero, List.set_cons_succ, i64_w, i32_w]
       rfl
      refine one_ (i := 9) (N := some 87) #[true, true, true, true, true, true, true, true, true, true, false, false] rfl rfl (by kernel_rfl) (by decide) (fun K hK => ?_)
      refine Kd.R_append_step (Kd.int .i64) (w0 := wr.drew) w7.heap.size (by rfl) (.tmp 83) (.tmp 86) 25 3 (.int .i64 0) 8 rfl Try.underlying25 info3 rfl (by decide) (by omega) v tr (a.f1) [.int .i64 (a.f1)] (fun _ => True) (fun _ => False) rfl rfl ?aP (fun _ hk => hk.elim) (fun _ _ => trivial) ?aO ?aB ?aS ?aL ?_
      (case aP => exact rfl)
      (case aO => exact Kd.R_drew HVR2.out)
      (case aB => exact Below.refl _ _)
      (case aS => exact TW.out.size)
      (case aL => have := HTN.out; omega)
      intro v1 w8 ho hb hgr hat
      refine hK.out _ _ ⟨blk_grown (blk_drew TW.out.t.blk) hgr (Kd.R_ne HVR2.out TW.out.t.blk (by decide)), blk_grown (blk_drew BT.out) hgr (Kd.R_ne HVR2.out BT.out (by decide))⟩ (fun hHeld => ?_)
      clear hK K
      have HN := Aside0.mk (Two.set (TW.out.below (below_drew (Below.refl _ _))) HV.out HTR.out ho hgr hat)
      have HB2 := Aside0.mk (below_set (j := x) (v := v1) (below_via (below_drew HB.out) hb HWZ.out) HG.out)
      have BT2 := Aside0.mk (blk_far hHeld.2 (p := ⟨tb, x, none⟩) (show bt ≠ tb by have h1 := HOBT.out; have h2 := HBT.out; have h3 := HZ.out; omega) v1)
      have zc : w8.cell? ⟨tb, x, none⟩ = some v := (blk_cell hHeld.1 x).trans (show vsT.toArray[x]? = some v by simpa using HV.out)
      have zf : w8.frozen? ⟨tb, x, none⟩ = false := blk_frozen hHeld.1 _
      obtain ⟨Av, cv2, hv1⟩ := Kd.R_slice ho
      subst hv1
      clear ho hb hgr hat
      refine norm_ (a' := ?_) ?_ ?_
      rotate_left
      ·show Act.put _ (some 87) _ = _
       simp only [Act.put, List.setIfInBounds_toArray, List.set_cons_zero, List.set_cons_succ, i64_w, i32_w]
       rfl
      refine pure_ (i := 10) (N := some 88) (v := ?_) (a' := ?_) #[true, true, true, true, true, true, true, true, true, true, true, false] rfl rfl (by kernel_rfl) (fun _ _ _ h => h) (Or.inl ⟨by rfl, ?_⟩) ?_ ?_
      rotate_left
      ·intro w'
       go_simp
       with_reducible rfl
      rotate_left
      ·simp only [Act.put, List.setIfInBounds_toArray, List.set_cons_zero, List.set_cons_succ, i64_w, i32_w]
       rfl
      refine last_ (i := 11) (N := none) #[true, true, true, true, true, true, true, true, true, true, true, true] rfl rfl (by kernel_rfl) (by decide) (fun K hK => ?_)
      refine skip_ (w1 := w8.setCell ⟨tb, x, none⟩ (.slice Av (tr ++ [a.f1]).length cv2)) (by rfl) rfl ?_ ?_
      ·go_simp
       try rfl
      refine hK.out _ _ ?_
      clear hK K zc zf
      refine done_ (by kernel_rfl) ?_
      clear hHeld TW HB BT
      have TW := HN
      have HB := HB2
      have BT := BT2
      clear HN HB2 BT2
      generalize w8.setCell ⟨tb, x, none⟩ (.slice Av (tr ++ [a.f1]).length cv2) = wr at TW HB BT ⊢
      go_wp2
      have HLT := Aside0.mk (show RowLen (30000 * x + (j + 1)) (T.set x (tr ++ [a.f1])) by rw [HTE.out]; exact RowLen.grow HLT.out)
      clear HV HTE HTR HTN HVR2
      obtain ⟨v, hv, hvr, _⟩ := TW.out.b.get a.f1.toNat (by rw [HBL.out]; omega)
      have HV := Aside0.mk hv
      obtain ⟨br, htr⟩ : ∃ br, br = B.getD a.f1.toNat [] := ⟨_, rfl⟩
      rw [← htr] at hvr HST
      have HTE := Aside0.mk htr
      have HTR := Aside0.mk (show B[a.f1.toNat]? = some br by rw [htr, List.getD_eq_getElem?_getD, List.getElem?_eq_getElem (by rw [HBL.out]; omega)]; rfl)
      have HTN := Aside0.mk (show br.length ≤ 40000000 by have h1 := HLB.out _ _ HTR.out; have h2 := HLEN.out; omega)
      have HVR2 := Aside0.mk hvr
      clear hv hvr htr
      obtain ⟨vsT2, hvs⟩ : ∃ l, vsT.set x (.slice Av (tr ++ [a.f1]).length cv2) = l := ⟨_, rfl⟩
      rw [hvs] at TW
      obtain ⟨T2, hT2⟩ : ∃ l, T.set x (tr ++ [a.f1]) = l := ⟨_, rfl⟩
      rw [hT2] at TW HST HLT
      clear hvs hT2
      refine start_ (n := 13) (S := fun w' => w'.heap[bb]? = some (.cells vsB.toArray 25 (0, 0)) ∧ w'.heap[bt]? = some (.cells #[.int .i64 a.f0, .int .i64 a.f1, .int .i64 a.f2, .int .i64 a.f3] 105 (0, 0))) (ds := [12]) #[false, false, false, false, false, false, false, false, false, false, false, false, false] (by kernel_rfl) rfl rfl ⟨TW.out.b.blk, BT.out⟩ (fun hHeld => ?_)
      refine pure_ (i := 0) (N := some 89) (v := ?_) (a' := ?_) #[true, false, false, false, false, false, false, false, false, false, false, false, false] rfl rfl (by kernel_rfl) (fun _ _ _ h => h) (Or.inl ⟨by rfl, ?_⟩) ?_ ?_
      rotate_left
      ·intro w'
       go_simp
       with_reducible rfl
      rotate_left
      ·simp only [Act.put, List.setIfInBounds_toArray, List.set_cons_zero, List.set_cons_succ, i64_w, i32_w]
       rfl
      refine pure_ (i := 1) (N := some 90) (v := ?_) (a' := ?_) #[true, true, false, false, false, false, false, false, false, false, false, false, false] rfl rfl (by kernel_rfl) (fun _ _ _ h => h) (Or.inl ⟨by rfl, ?_⟩) ?_ ?_
      rotate_left
      ·intro w'
       go_simp
       with_reducible rfl
      rotate_left
      ·simp only [Act.put, List.setIfInBounds_toArray, List.set_cons_zero, List.set_cons_succ, i64_w, i32_w]
       rfl
      refine take_ (i := 2) (N := some 91) (v := ?_) (a' := ?_) #[true, true, true, false, false, false, false, false, false, false, false, false, false] rfl rfl (by kernel_rfl) (fun _ _ _ h => h) (Or.inl ⟨by rfl, ?_⟩) hHeld ?_ ?_
      rotate_left
      ·rintro w' ⟨s0, s1⟩
       have z0 := (blk_cell s0 a.f1.toNat).trans (show vsB.toArray[a.f1.toNat]? = some v by simpa using HV.out)
       have y1 := (blk_cell s1 1).trans rfl
       go_simp
       with_reducible rfl
      rotate_left
      ·simp only [Act.put, List.setIfInBounds_toArray, List.set_cons_zero, List.set_cons_succ, i64_w, i32_w]
       rfl
      refine pure_ (i := 3) (N := some 92) (v := ?_) (a' := ?_) #[true, true, true, true, false, false, false, false, false, false, false, false, false] rfl rfl (by kernel_rfl) (fun _ _ _ h => h) (Or.inl ⟨by rfl, ?_⟩) ?_ ?_
      rotate_left
      ·intro w'
       go_simp
       with_reducible rfl
      rotate_left
      ·simp only [Act.put, List.setIfInBounds_toArray, List.set_cons_zero, List.set_cons_succ, i64_w, i32_w]
       rfl
      refine pure_ (i := 4) (N := some 93) (v := ?_) (a' := ?_) #[true, true, true, true, true, false, false, false, false, false, false, false, false] rfl rfl (by kernel_rfl) (fun _ _ _ h => h) (Or.inl ⟨by rfl, ?_⟩) ?_ ?_
      rotate_left
      ·intro w'
       go_simp
       with_reducible rfl
      rotate_left
      ·simp only [Act.put, List.setIfInBounds_toArray, List.set_cons_zero, List.set_cons_succ, i64_w, i32_w]
       rfl
      refine take_ (i := 5) (N := some 94) (v := ?_) (a' := ?_) #[true, true, true, true, true, true, false, false, false, false, false, false, false] rfl rfl (by kernel_rfl) (fun _ _ _ h => h) (Or.inl ⟨by rfl, ?_⟩) hHeld ?_ ?_
      rotate_left
      ·rintro w' ⟨s0, s1⟩
       have z0 := (blk_cell s0 a.f1.toNat).trans (show vsB.toArray[a.f1.toNat]? = some v by simpa using HV.out)
       have y1 := (blk_cell s1 1).trans rfl
       go_simp
       with_reducible rfl
      rotate_left
      ·simp only [Act.put, List.setIfInBounds_toArray, List.set_cons_zero, List.set_cons_succ, i64_w, i32_w]
       rfl
      refine pure_ (i := 6) (N := some 95) (v := ?_) (a' := ?_) #[true, true, true, true, true, true, true, false, false, false, false, false, false] rfl rfl (by kernel_rfl) (fun _ _ _ h => h) (Or.inl ⟨by rfl, ?_⟩) ?_ ?_
      rotate_left
      ·intro w'
       go_simp
       with_reducible rfl
      rotate_left
      ·simp only [Act.put, List.setIfInBounds_toArray, List.set_cons_zero, List.set_cons_succ, i64_w, i32_w]
       rfl
      refine take_ (i := 7) (N := some 96) (v := ?_) (a' := ?_) #[true, true, true, true, true, true, true, true, false, false, false, false, false] rfl rfl (by kernel_rfl) (fun _ _ _ h => h) (Or.inl ⟨by rfl, ?_⟩) hHeld ?_ ?_
      rotate_left
      ·rintro w' ⟨s0, s1⟩
       have z0 := (blk_cell s0 a.f1.toNat).trans (show vsB.toArray[a.f1.toNat]? = some v by simpa using HV.out)
       have y1 := (blk_cell s1 1).trans rfl
       go_simp
       with_reducible rfl
      rotate_left
      ·simp only [Act.put, List.setIfInBounds_toArray, List.set_cons_zero, List.set_cons_succ, i64_w, i32_w]
       rfl
      refine pure_ (i := 8) (N := some 97) (v := ?_) (a' := ?_) #[true, true, true, true, true, true, true, true, true, false, false, false, false] rfl rfl (by kernel_rfl) (fun _ _ _ h => h) (Or.inl ⟨by rfl, ?_⟩) ?_ ?_
      rotate_left
      ·intro w'
       go_simp
       with_reducible rfl
      rotate_left
      ·simp only [Act.put, List.setIfInBounds_toArray, List.set_cons_zero, List.set_cons_succ, i64_w, i32_w]
       rfl
      refine one_ (i := 9) (N := some 98) #[true, true, true, true, true, true, true, true, true, true, false, false, false] rfl rfl (by kernel_rfl) (by decide) (fun K hK => ?_)
      refine value_ (w1 := wr.drew.alloc (.cells #[.int .i64 ((x : Int))] 3)) (v := .slice (some ⟨wr.drew.heap.size, 0, none⟩) 1 1) (by rfl) rfl ?_ ?_
      ·go_simp
       try rfl
      refine hK.out _ _ ⟨blk_alloc hHeld.1 _, blk_alloc hHeld.2 _⟩ (fun hHeld => ?_)
      clear hK K
      refine norm_ (a' := ?_) ?_ ?_
      rotate_left
      ·show Act.put _ (some 98) _ = _
       simp only [Act.put, List.setIfInBounds_toArray, List.set_cons_zero, List.set_cons_succ, i64_w, i32_w]
       rfl
      refine one_ (i := 10) (N := some 99) #[true, true, true, true, true, true, true, true, true, true, true, false, false] rfl rfl (by kernel_rfl) (by decide) (fun K hK => ?_)
      refine Kd.R_append_step (Kd.int .i64) (w0 := wr.drew) w7.heap.size (by rfl) (.tmp 96) (.tmp 98) 25 3 (.int .i64 0) 8 rfl Try.underlying25 info3 rfl (by decide) (by omega) v br ((x : Int)) [.int .i64 ((x : Int))] (fun _ => True) (fun _ => False) rfl rfl ?aP (fun _ hk => hk.elim) (fun _ _ => trivial) ?aO ?aB ?aS ?aL ?_
      (case aP => exact rfl)
      (case aO => exact Kd.R_drew HVR2.out)
      (case aB => exact Below.refl _ _)
      (case aS => exact TW.out.size)
      (case aL => have := HTN.out; omega)
      intro v1 w8 ho hb hgr hat
      refine hK.out _ _ ⟨blk_grown (blk_drew TW.out.b.blk) hgr (Kd.R_ne HVR2.out TW.out.b.blk (by decide)), blk_grown (blk_drew BT.out) hgr (Kd.R_ne HVR2.out BT.out (by decide))⟩ (fun hHeld => ?_)
      clear hK K
      have HN := Aside0.mk (Two.flip (Two.set (Two.flip (TW.out.below (below_drew (Below.refl _ _)))) HV.out HTR.out ho hgr hat))
      have HB2 := Aside0.mk (below_set (j := a.f1.toNat) (v := v1) (below_via (below_drew HB.out) hb HWZ.out) HG2.out)
      have BT2 := Aside0.mk (blk_far hHeld.2 (p := ⟨bb, a.f1.toNat, none⟩) (show bt ≠ bb by have h1 := HOBT.out; have h2 := HBT.out; have h3 := HZ.out; omega) v1)
      have zc : w8.cell? ⟨bb, a.f1.toNat, none⟩ = some v := (blk_cell hHeld.1 a.f1.toNat).trans (show vsB.toArray[a.f1.toNat]? = some v by simpa using HV.out)
      have zf : w8.frozen? ⟨bb, a.f1.toNat, none⟩ = false := blk_frozen hHeld.1 _
      obtain ⟨Av, cv2, hv1⟩ := Kd.R_slice ho
      subst hv1
      clear ho hb hgr hat
      refine norm_ (a' := ?_) ?_ ?_
      rotate_left
      ·show Act.put _ (some 99) _ = _
       simp only [Act.put, List.setIfInBounds_toArray, List.set_cons_zero, List.set_cons_succ, i64_w, i32_w]
       rfl
      refine pure_ (i := 11) (N := some 100) (v := ?_) (a' := ?_) #[true, true, true, true, true, true, true, true, true, true, true, true, false] rfl rfl (by kernel_rfl) (fun _ _ _ h => h) (Or.inl ⟨by rfl, ?_⟩) ?_ ?_
      rotate_left
      ·intro w'
       go_simp
       with_reducible rfl
      rotate_left
      ·simp only [Act.put, List.setIfInBounds_toArray, List.set_cons_zero, List.set_cons_succ, i64_w, i32_w]
       rfl
      refine last_ (i := 12) (N := none) #[true, true, true, true, true, true, true, true, true, true, true, true, true] rfl rfl (by kernel_rfl) (by decide) (fun K hK => ?_)
      refine skip_ (w1 := w8.setCell ⟨bb, a.f1.toNat, none⟩ (.slice Av (br ++ [(x : Int)]).length cv2)) (by rfl) rfl ?_ ?_
      ·go_simp
       try rfl
      refine hK.out _ _ ?_
      clear hK K zc zf
      refine done_ (by kernel_rfl) ?_
      clear hHeld TW HB BT
      have TW := HN
      have HB := HB2
      have BT := BT2
      clear HN HB2 BT2
      generalize w8.setCell ⟨bb, a.f1.toNat, none⟩ (.slice Av (br ++ [(x : Int)]).length cv2) = wr at TW HB BT ⊢
      go_wp2
      have HLB := Aside0.mk (show RowLen (30000 * x + (j + 1)) (B.set a.f1.toNat (br ++ [(x : Int)])) by rw [HTE.out]; exact RowLen.grow HLB.out)
      go_roundg (row.length - j - 1)
      case measure => have := HJ.out; omega
      case rel => exact ⟨j + 1, _, _, by go_num, ⟨by omega⟩, ⟨by rw [HST.out]; exact TW.out⟩, ⟨by rw [HST.out]; exact HLT.out⟩, ⟨by rw [HST.out]; exact HLB.out⟩, HB⟩
     ·have hd : (rd value a.f1 == y) = false := beq_eq_false_iff_ne.mpr hc
      have HST := Aside0.mk (show tightRow value x (List.take (j + 1) row) (tightUp value rows x) = (T, B) by rw [HST.out]; unfold tightStep; rw [if_neg (fun e => hc (e.trans HY.out.symm))])
      clear hc HY
      go_wp2
      go_roundg (row.length - j - 1)
      case measure => have := HJ.out; omega
      case rel => exact ⟨j + 1, _, _, by go_num, ⟨by omega⟩, ⟨by rw [HST.out]; exact TW.out⟩, ⟨by rw [HST.out]; exact HLT.out.more (by omega)⟩, ⟨by rw [HST.out]; exact HLB.out.more (by omega)⟩, HB⟩
    ·have HI := Aside0.mk (show j = row.length by have := HJ.out; omega)
     go_wp2
     go_roundg (n - x)
     case measure => have := HK.out; omega
     case rel =>
      have h0 := HI.out
      have h1 : row.take j = row := by rw [h0, List.take_length]
      have h2 := HLEN.out
      refine ⟨x + 1, vsT, vsB, by go_num, ⟨by omega⟩, ⟨by rw [HUP.out]; have := TW.out; rw [h1] at this; exact this⟩, ⟨by rw [HUP.out]; have := HLT.out; rw [h1] at this; exact this.more (by omega)⟩, ⟨by rw [HUP.out]; have := HLB.out; rw [h1] at this; exact this.more (by omega)⟩, HB⟩
  ·have HI := Aside0.mk (show x = n + 1 by have := HK.out; omega)
   have HTL := Aside0.mk (show (tightUp value rows x).1.length = n + 1 by rw [(tightUp_length _ _ _).1, HLR.out])
   have HBL := Aside0.mk (show (tightUp value rows x).2.length = n + 1 by rw [(tightUp_length _ _ _).2, HLR.out])
   rw [← HI.out] at H
   have HLQ : Aside0 (x = n + 1) := HI
   generalize tightUp value rows x = P at TW HTL HBL H HLT HLB
   obtain ⟨T, B⟩ := P
   have HTC := Aside0.mk (TW.out.t.reads (by have h := HTL.out; dsimp only at h ⊢; omega))
   have HBC := Aside0.mk (TW.out.b.reads (by have h := HBL.out; dsimp only at h ⊢; omega))
   have HVC := Aside0.mk (Kd.R_reads' (Kd.R_step (Kd.R_tight rfl HVR.out) (fun k hk hlt => TW.out.fr k hlt (fun e => HVT.out ((Option.some.inj hk).symm.trans e)) (fun e => HVB.out ((Option.some.inj hk).symm.trans e))))).2.2
   have HGV := Aside0.mk (Nat.lt_of_lt_of_le (Kd.R_lt HVR.out gv rfl) TW.out.size)
   simp only at HTL HBL
   clear TW HLT HLB HI HK HLQ HRW HRL HRA HLR HVR HVT HVB HW6 HZ HOBT HG HG2
   go_wp2_with (first | ((with_reducible refine gate_dst (N := 104) rfl ?_); refine make_bools (n := n) rfl rfl hn rfl rfl ?_))
   clear hlt
   have BS := Aside0.mk (blk_new wr (.cells (encB (List.replicate n false)) 4))
   have hb := below_alloc (Below.refl wr.heap.size wr) (.cells (encB (List.replicate n false)) 4)
   have HBB := Aside0.mk hb
   clear hb
   have HB0 := HB
   have HSB := Aside0.mk (Nat.le_refl wr.heap.size)
   obtain ⟨wa, hwa⟩ : ∃ wa, wa = wr := ⟨_, rfl⟩
   rw [← hwa] at HTC HBC HVC HGV HB0 HSB BS HBB HB ⊢
   clear hwa HB
   generalize wa.alloc (.cells (encB (List.replicate n false)) 4) = wb at BS HBB ⊢
   obtain ⟨sb, hsb⟩ : ∃ sb, wa.heap.size = sb := ⟨_, rfl⟩
   rw [hsb] at BS HGV ⊢
   have HSBE := Aside0.mk hsb
   clear hsb HSB
   go_loopg [15, 106] n (fun kq v15 v106 w' => ∃ (v : Nat) (seen : List Bool) (sets : List (List Int)), v106 = .int .i64 (v : Int) ∧ Aside0 (kq + v = n) ∧ Aside0 (clsV k n value T B (n - v) v seen sets = some r) ∧ Aside0 (seen.length = n) ∧ Aside0 (sets.length ≤ v) ∧
    Aside0 (w'.heap[sb]? = some (.cells (encB seen) 4 (0, 0))) ∧ Aside0 (Kd.S (Kd.slice 3 (Kd.int .i64)) 25 w' wa.heap.size (fun k => k ≠ sb) v15 sets) ∧ Aside0 (Below wa.heap.size wa w'))
   case atStart => exact ⟨0, _, _, rfl, ⟨rfl⟩, H, ⟨List.length_replicate⟩, ⟨Nat.le_refl _⟩, BS, ⟨Kd.S_nil _ _ _ _ _⟩, HBB⟩
   case round =>
    clear H BS HBB
    obtain ⟨v, seen, sets, rfl, HK, H, HSL, HSS, BS, HSETS, HBB⟩ := hrel
    by_cases hlt : v < n
    ·have H2 := H.out
     obtain ⟨d, hd⟩ : ∃ d, n - v = d + 1 := ⟨n - v - 1, by omega⟩
     rw [hd] at H2
     simp only [clsV] at H2
     have HD := Aside0.mk (show d = n - (v + 1) by omega)
     have z0 := (blk_cell BS.out v).trans (encB_get (by rw [HSL.out]; exact hlt))
     clear hd H
     cases hsv : seen.getD v false with
     | true =>
      rw [hsv] at z0
      rw [hsv, if_pos rfl] at H2
      have H := Aside0.mk H2
      clear H2 hsv
      go_wp2
      go_roundg (n - v - 1)
      case measure => have := HK.out; omega
      case rel => exact ⟨v + 1, seen, sets, by go_num, ⟨by omega⟩, ⟨by rw [← HD.out]; exact H.out⟩, HSL, ⟨by have := HSS.out; omega⟩, BS, HSETS, HBB⟩
     | false =>
      rw [hsv] at z0
      rw [hsv, if_neg (by decide)] at H2
      obtain ⟨tw, htw, H3⟩ := Option.bind_eq_some_iff.1 H2
      obtain ⟨fr, hfr, H4⟩ := Option.bind_eq_some_iff.1 H3
      by_cases hl1 : tw.length = n + 1
      case neg => rw [if_neg hl1] at H4; cases H4
      by_cases hl2 : fr.length = n + 1
      case neg => rw [if_pos hl1, if_neg hl2] at H4; cases H4
      rw [if_pos hl1, if_pos hl2] at H4
      have H := Aside0.mk H4
      have HTW := Aside0.mk htw
      have HFR := Aside0.mk hfr
      have HL1 := Aside0.mk hl1
      have HL2 := Aside0.mk hl2
      clear H2 H3 H4 htw hfr hl1 hl2 hsv
      go_wp2_with (fail)
      clear z0
      have hm := graph_reached.calls k (some ⟨tb, 0, none⟩) (n + 1) T (v : Int) tw wr (Kd.C_below HTC.out HBB.out) (by rw [HTL.out]; exact Nat.le_refl _) HTW.out
      rw [HTL.out] at hm
      refine hm.mono ?_
      clear hm
      rintro e w9 ⟨vt, rfl, ht, hb⟩
      have HSB9 := Aside0.mk (blk_lt BS.out)
      have HTV := Aside0.mk (show ∀ k, vt.ownBlock = some k → k ≠ sb from fun k hk e => by have h1 := Kd.R_base ht k hk; have h2 := HSB9.out; omega)
      obtain ⟨At, ct, hvt⟩ := Kd.R_slice ht
      subst hvt
      replace HSETS := Aside0.mk (Kd.S_below HSETS.out hb)
      replace BS := Aside0.mk (blk_below BS.out hb)
      replace HBB := Aside0.mk (below_step HBB.out hb)
      have HT9 := Aside0.mk (Kd.R_reads' ht).2.2
      rw [HL1.out] at HTV ⊢
      clear ht hb
      go_wp2_with (fail)
      have hm := graph_reached.calls k (some ⟨bb, 0, none⟩) (n + 1) B (v : Int) fr w9 (Kd.C_below HBC.out HBB.out) (by rw [HBL.out]; exact Nat.le_refl _) HFR.out
      rw [HBL.out] at hm
      refine hm.mono ?_
      clear hm
      rintro e w10 ⟨vf, rfl, hf, hb⟩
      have HSBA := Aside0.mk (blk_lt BS.out)
      have HFV := Aside0.mk (show ∀ k, vf.ownBlock = some k → k ≠ sb from fun k hk e => by have h1 := Kd.R_base hf k hk; have h2 := HSBA.out; omega)
      obtain ⟨Af, cf, hvf⟩ := Kd.R_slice hf
      subst hvf
      replace HSETS := Aside0.mk (Kd.S_below HSETS.out hb)
      replace BS := Aside0.mk (blk_below BS.out hb)
      replace HBB := Aside0.mk (below_step HBB.out hb)
      replace HT9 := Aside0.mk (Kd.C_below HT9.out hb)
      have HF9 := Aside0.mk (Kd.R_reads' hf).2.2
      rw [HL2.out] at HFV ⊢
      have HVC2 := Aside0.mk (Kd.C_below HVC.out HBB.out)
      have HWA := Aside0.mk HBB.out.size
      clear hf hb HSB9 HSBA HTW HFR
      go_wp2
      obtain ⟨M, hM⟩ : ∃ M, M = memB tw fr value := ⟨_, rfl⟩
      rw [← hM] at H
      have HM := Aside0.mk hM
      clear hM
      obtain ⟨q, hq⟩ : ∃ q, setR M v (n - v) v [] seen = q := ⟨_, rfl⟩
      rw [hq] at H
      go_loopg [20, 21] (n - v) (fun kq v20 v21 w' => ∃ (u : Nat) (set : List Int) (sn : List Bool), v21 = .int .i64 (u : Int) ∧ Aside0 (kq + u = n) ∧ Aside0 (setR M v (n - u) u set sn = q) ∧ Aside0 (set.length ≤ u) ∧ Aside0 (sn.length = n) ∧
       Aside0 (w'.heap[sb]? = some (.cells (encB sn) 4 (0, 0))) ∧ Aside0 (Kd.R (Kd.int .i64) 3 w' w10.heap.size (fun _ => True) v20 set) ∧ Aside0 (∀ k, k < w10.heap.size → k ≠ sb → w'.heap[k]? = w10.heap[k]?) ∧ Aside0 (w10.heap.size ≤ w'.heap.size) ∧ Aside0 (Below wa.heap.size wa w'))
      case atStart => exact ⟨v, [], seen, rfl, ⟨by omega⟩, ⟨hq⟩, ⟨Nat.zero_le _⟩, HSL, BS, ⟨Kd.R_nil _ _ _ _ _⟩, ⟨fun _ _ _ => rfl⟩, ⟨Nat.le_refl _⟩, HBB⟩
      case round =>
       clear hq BS HBB HSL
       obtain ⟨u, set, sn, rfl, HU, HQ, HSE, HSN, BS, HSET, HFX, HSZ, HBB⟩ := hrel
       by_cases hul : u < n
       ·have HD0 : ∃ d, n - u = d + 1 := ⟨n - u - 1, by omega⟩
        obtain ⟨d, hd⟩ := HD0
        rw [hd] at HQ
        simp only [setR] at HQ
        have HD := Aside0.mk (show d = n - (u + 1) by omega)
        obtain ⟨ad, e, z0⟩ := Kd.at_bool HT9.out (u : Int) (by omega) (by rw [HL1.out]; omega)
        have e0 := HTV.out ad.block (by rw [e]; rfl)
        subst e
        replace z0 := fr_cell HFX.out z0 (add_ne e0)
        obtain ⟨af, e, z1⟩ := Kd.at_bool HF9.out (u : Int) (by omega) (by rw [HL2.out]; omega)
        have e1 := HFV.out af.block (by rw [e]; rfl)
        subst e
        replace z1 := fr_cell HFX.out z1 (add_ne e1)
        have e2 : gv ≠ sb := by have := HGV.out; omega
        obtain ⟨ag, e, z2⟩ := Kd.at_int HVC2.out (u : Int) (by omega) (by rw [HVL.out]; omega)
        cases e
        replace z2 := fr_cell HFX.out z2 (add_ne e2)
        obtain ⟨ag, e, z3⟩ := Kd.at_int HVC2.out (v : Int) (by omega) (by rw [HVL.out]; omega)
        cases e
        replace z3 := fr_cell HFX.out z3 (add_ne e2)
        rw [rdOf_nat] at z0 z1
        rw [rd_nat] at z2 z3
        simp only [Int.toNat_natCast, add_plain] at z0 z1 z2 z3
        obtain ⟨yu, hyu⟩ : ∃ y, value.getD u 0 = y := ⟨_, rfl⟩
        obtain ⟨yv, hyv⟩ : ∃ y, value.getD v 0 = y := ⟨_, rfl⟩
        rw [hyu] at z2
        rw [hyv] at z3
        have HYU := Aside0.mk hyu
        have HYV := Aside0.mk hyv
        clear hd e0 e1 e2 hyu hyv
        have hu1 : (u : Int) < (n : Int) + 1 := by omega
        have hv1 : (v : Int) < (n : Int) + 1 := by omega
        cases hb1 : tw.getD u false with
        | false =>
         rw [hb1] at z0
         have hMf : M v u = false := by rw [HM.out]; unfold memB; simp only [hb1]; simp
         have HQ2 := Aside0.mk (show setR M v (n - (u + 1)) (u + 1) set sn = q by have h := HQ.out; rw [hMf, if_neg (by decide)] at h; rw [← HD.out]; exact h)
         clear hMf HQ hb1
         go_wp2
         go_quiet (fail)
         clear z0 z1 z2 z3
         go_wp2
         go_roundg (n - u - 1)
         case measure => have := HU.out; omega
         case rel => exact ⟨u + 1, set, sn, by go_num, ⟨by omega⟩, HQ2, ⟨by have := HSE.out; omega⟩, HSN, ⟨blk_drewN BS.out nq⟩, ⟨Kd.R_drewN HSET.out nq⟩, ⟨fr_drew HFX.out nq⟩, HSZ, ⟨below_step HBB.out (pw_below_drewN (Below.refl _ _) nq)⟩⟩
        | true =>
        rw [hb1] at z0
        cases hb2 : fr.getD u false with
        | false =>
         rw [hb2] at z1
         have hMf : M v u = false := by rw [HM.out]; unfold memB; simp only [hb1, hb2]; simp
         have HQ2 := Aside0.mk (show setR M v (n - (u + 1)) (u + 1) set sn = q by have h := HQ.out; rw [hMf, if_neg (by decide)] at h; rw [← HD.out]; exact h)
         clear hMf HQ hb1 hb2
         go_wp2
         go_quiet (fail)
         clear z0 z1 z2 z3
         go_wp2
         go_roundg (n - u - 1)
         case measure => have := HU.out; omega
         case rel => exact ⟨u + 1, set, sn, by go_num, ⟨by omega⟩, HQ2, ⟨by have := HSE.out; omega⟩, HSN, ⟨blk_drewN BS.out nq⟩, ⟨Kd.R_drewN HSET.out nq⟩, ⟨fr_drew HFX.out nq⟩, HSZ, ⟨below_step HBB.out (pw_below_drewN (Below.refl _ _) nq)⟩⟩
        | true =>
        rw [hb2] at z1
        cases hb3 : (yu == yv) with
        | false =>
         have hMf : M v u = false := by rw [HM.out]; unfold memB; simp only [hb1, hb2, HYU.out, HYV.out, hb3]; simp
         have HQ2 := Aside0.mk (show setR M v (n - (u + 1)) (u + 1) set sn = q by have h := HQ.out; rw [hMf, if_neg (by decide)] at h; rw [← HD.out]; exact h)
         clear hMf HQ hb1 hb2
         go_wp2
         go_quiet (fail)
         clear z0 z1 z2 z3
         go_wp2
         clear hb3
         go_roundg (n - u - 1)
         case measure => have := HU.out; omega
         case rel => exact ⟨u + 1, set, sn, by go_num, ⟨by omega⟩, HQ2, ⟨by have := HSE.out; omega⟩, HSN, ⟨blk_drewN BS.out nq⟩, ⟨Kd.R_drewN HSET.out nq⟩, ⟨fr_drew HFX.out nq⟩, HSZ, ⟨below_step HBB.out (pw_below_drewN (Below.refl _ _) nq)⟩⟩
        | true =>
         have hMt : M v u = true := by rw [HM.out]; unfold memB; simp only [hb1, hb2, HYU.out, HYV.out, hb3]; simp
         have HQ2 := Aside0.mk (show setR M v (n - (u + 1)) (u + 1) (set ++ [(u : Int)]) (sn.set u true) = q by have h := HQ.out; rw [hMt, if_pos rfl] at h; rw [← HD.out]; exact h)
         clear hMt HQ hb1 hb2
         go_wp2
         go_quiet (fail)
         clear z0 z1 z2 z3
         have HBS := Aside0.mk (show wa.heap.size ≤ sb by rw [HSBE.out]; exact Nat.le_refl _)
         go_wp2_with (first | ((with_reducible refine gate_builtin (b := .append) (xs := #[.tmp 146, .tmp 148]) rfl ?_); at_builtin; refine Kd.R_append (Kd.int .i64) (w0 := wr.drewN nq) w10.heap.size rfl (.tmp 146) (.tmp 148) 25 3 (.int .i64 0) 8 rfl Try.underlying25 info3 rfl (by decide) (by omega) u20 set (u : Int) [.int .i64 (u : Int)] (fun _ => True) (fun _ => False) rfl rfl ?aP (fun _ hk => hk.elim) ?aF ?aO ?aB ?aS ?aL ?_; (case aP => exact rfl); (case aB => exact Below.refl _ _); (case aF => exact (fun _ _ => trivial)); (case aO => exact Kd.R_drewN HSET.out nq); (case aS => exact HSZ.out); (case aL => have := HSE.out; omega); intro v1 w12 ho hb hg hat; have HO := Aside0.mk ho; have HBX := Aside0.mk hb; have HG := Aside0.mk hg; have BS2 := Aside0.mk (blk_grown (blk_drewN BS.out nq) hg (Kd.R_ne HSET.out BS.out (by decide))); have zc := (blk_cell BS2.out u).trans (encB_get (by rw [HSN.out]; exact hul)); have zf := blk_frozen BS2.out u; clear ho hb hg hat))
         clear zc zf hb3
         go_roundg (n - u - 1)
         case measure => have := HU.out; omega
         case rel =>
          have hsz := HG.out.size
          exact ⟨u + 1, set ++ [(u : Int)], sn.set u true, by go_num, ⟨by omega⟩, HQ2, ⟨by have := HSE.out; rw [List.length_append, List.length_singleton]; omega⟩, ⟨by rw [List.length_set]; exact HSN.out⟩, ⟨blk_put BS2.out u _ (encB_set _ _ _)⟩,
           ⟨Kd.R_mono (Kd.R_far (p := ⟨sb, u, none⟩) (Kd.R_tight rfl HO.out) (fun k hk e => Kd.R_ne HO.out BS2.out (by decide) (by rw [← hk]; exact congrArg some e.symm)) _) (fun _ _ => trivial)⟩,
           ⟨fun k h1 h2 => (Below.heap_setCell w12 ⟨sb, u, none⟩ _ k h2).trans ((HG.out.block k (Nat.lt_of_lt_of_le h1 HSZ.out) (fun e => by have := Kd.R_base HSET.out k e.symm; omega)).trans (HFX.out k h1 h2))⟩,
           ⟨by have h1 := HSZ.out; have h2 : wr.heap.size ≤ w12.heap.size := hsz; simp only [World.setCell, Array.size_modify]; omega⟩,
           ⟨below_set (below_via (below_step HBB.out (pw_below_drewN (Below.refl _ _) nq)) HBX.out HWA.out) HBS.out⟩⟩
       ·have hun : u = n := by have := HU.out; omega
        have hq2 := HQ.out
        rw [show n - u = 0 by omega] at hq2
        simp only [setR] at hq2
        subst hq2
        clear HQ hun
        have HUN := Aside0.mk (show n ≤ u by omega)
        have HS2 := Aside0.mk (Kd.S_step (Kd.S_mono (Kd.S_bound HSETS.out) (ok' := fun k => k ≠ sb ∧ k < w10.heap.size) (fun k hk => ⟨hk.1, hk.2.2.1⟩)) (fun k hk _ => HFX.out k hk.2 hk.1))
        obtain ⟨A20, c20, e20⟩ := Kd.R_slice HSET.out
        subst e20
        by_cases h1 : 1 < set.length
        ·have hd1 : decide ((1 : Int) < (set.length : Int)) = true := decide_eq_true (by omega)
         have HMS := Aside0.mk (show moreSets sets set = sets ++ [set] from if_pos h1)
         clear h1
         go_wp2_with (first | ((with_reducible refine gate_builtin (b := .append) (xs := #[.tmp 156, .tmp 158]) rfl ?_); at_builtin; refine Kd.S_append (Kd.slice 3 (Kd.int .i64)) (w0 := wa) wa.heap.size rfl (.tmp 156) (.tmp 158) 54 25 (.slice none 0 0) 24 rfl Try.underlying54 info25 rfl (by decide) (by omega) u15 sets set [.slice A20 set.length c20] (fun k => k ≠ sb) (fun k => some k = (.slice A20 set.length c20 : Value).ownBlock) rfl rfl ?aP ?aK ?aF ?aO ?aB ?aS ?aL ?_; (case aP => exact Kd.M_row (Kd.R_lower (Kd.R_tight rfl HSET.out) HWA.out)); (case aK => exact fun k hk => ⟨fun e => Kd.R_ne HSET.out BS.out (by decide) (by rw [← hk, e]), fun e => by have h1 := Kd.S_lt HSETS.out k e.symm; have h2 := Kd.R_base HSET.out k hk.symm; omega⟩); (case aF => exact fun k hk e => by have h1 := blk_lt BS.out; omega); (case aO => exact Kd.S_mono HS2.out (fun k hk => ⟨hk.1, fun e => by have h2 := Kd.R_base HSET.out k e.symm; have h3 := hk.2; omega⟩)); (case aB => exact HBB.out); (case aS => exact HBB.out.size); (case aL => have := HSS.out; omega); intro v1 w12 ho hb hg hat; have HO := Aside0.mk ho; have HBX := Aside0.mk hb; have BS2 := Aside0.mk (blk_grown BS.out hg (Kd.S_away HSETS.out (fun k h => h))); clear ho hb hg hat))
         clear hd1
         go_roundg (n - v - 1)
         case measure => have := HK.out; omega
         case rel => exact ⟨v + 1, sn, moreSets sets set, by go_num, ⟨by omega⟩, ⟨by rw [← HD.out]; exact H.out⟩, HSN, ⟨by have h2 := HSS.out; rw [HMS.out, List.length_append, List.length_singleton]; omega⟩, BS2, ⟨by rw [HMS.out]; exact HO.out⟩, HBX⟩
        ·have hd1 : decide ((1 : Int) < (set.length : Int)) = false := decide_eq_false (by omega)
         have HMS := Aside0.mk (show moreSets sets set = sets from if_neg h1)
         clear h1
         go_wp2
         clear hd1
         go_roundg (n - v - 1)
         case measure => have := HK.out; omega
         case rel => exact ⟨v + 1, sn, moreSets sets set, by go_num, ⟨by omega⟩, ⟨by rw [← HD.out]; exact H.out⟩, HSN, ⟨by have h2 := HSS.out; rw [HMS.out]; omega⟩, BS, ⟨by rw [HMS.out]; exact Kd.S_mono HS2.out (fun k hk => hk.1)⟩, HBB⟩
    ·have hvn : v = n := by have := HK.out; omega
     have H2 := H.out
     rw [show n - v = 0 by omega] at H2
     simp only [clsV] at H2
     obtain rfl := Option.some.inj H2
     clear H2 H hvn
     go_wp2
     (try simp only [Exit.inBlock, Exit.then])
     refine bodyPost_ret (results_list (rs := [.tmp 4, .tmp 5]) rfl (by simp) (.tmp (.tmp .nil))) rfl ?_
     exact ⟨_, rfl, Kd.S_mono (Kd.S_lower HSETS.out HB0.out.size) (fun _ _ => trivial), below_step HB0.out HBB.out⟩
end Go.Proofs.Ytegejpcglabhbaa.G
