/- A part of this claim's proof: texts of its author, and printed ones, packed by a program of its author's. -/
import Derived.Test.YtegejpcglabhbaaCe36
import Derived.Test.YtegejpcglabhbaaCe25
namespace Go.Proofs.Ytegejpcglabhbaa.G
open Go.RowKit Go.Proofs.YtegejpcglabhbaaW.PrintWords Go.Proofs.YtegejpcglabhbaaW.PrintLast Go.Proofs.YtegejpcglabhbaaW.PrintMore
set_option linter.unusedVariables false
set_option linter.unusedSimpArgs false
def cutL (left : List Int) (i : Nat) : List Int := left.take i ++ left.drop (i + 1)
def expL (k n : Nat) (l : List S44) : Nat → Nat → List Int → Option (List Int)
 | 0, _, _ => none
 | f + 1, i, left =>
  if left.length ≤ 3000 ∧ ∀ x ∈ left, 0 ≤ x ∧ x < l.length then
   if i < left.length then (search k n l (cutL left i) (n : Int)).bind fun R => match R with
    | .loop lp => expL k n l f 0 (leftB (fun x => !(cutL left i).contains x) (usedL lp))
    | .done _ => expL k n l f (i + 1) left
   else some left
  else none
def explainN (k n : Nat) (l : List S44) : Option (List Int × Bool × Int) := (search k n l (upTo l.length) (n : Int)).bind fun R => match R with
 | .loop lp => (expL k n l k 0 (usedL lp)).map fun r => (r, true, 0)
 | .done _ => some ([], false, 0)
def graph_Explain.f (k : Nat) (a0 : Int) (l1 : List S44) : Option (List Int × Bool × Int) := if validB a0 l1 = true then explainN k a0.toNat l1 else some ([], false, 4)
theorem expL.mono (n : Nat) (l : List S44) (k : Nat) : ∀ f i left, LeO (expL k n l f i left) (expL (k + 1) n l (f + 1) i left)
 | 0, _, _ => LeO.none _
 | f + 1, i, left => LeO.ite (LeO.ite (LeO.bind (search.mono _ _ _ _ _) fun R => match R with
   | .loop lp => expL.mono n l k f _ _
   | .done _ => expL.mono n l k f _ _) (LeO.refl _)) (LeO.refl _)
theorem graph_Explain.mono : ∀ a0 l1 k, LeO (graph_Explain.f k a0 l1) (graph_Explain.f (k + 1) a0 l1) := fun _ _ _ =>
 LeO.ite (LeO.bind (search.mono _ _ _ _ _) fun R => match R with
  | .loop lp => LeO.map _ (expL.mono _ _ _ _ _ _)
  | .done _ => LeO.refl _) (LeO.refl _)
theorem nil_eql (w : World) : (binOp .eql 82 (.slice none 0 0) (.slice none 0 0)).run Try.prog w = .ok (.bool true) w := Lib.run_eql_slice_nil (P := Try.prog) w 82 105 none 0 0 0 0 Try.underlying82
theorem some_eql (w : World) (b m c : Nat) : (binOp .eql 82 (.slice (some ⟨b, 0, none⟩) m c) (.slice none 0 0)).run Try.prog w = .ok (.bool false) w := Lib.run_eql_slice_nil (P := Try.prog) w 82 105 (some ⟨b, 0, none⟩) m c 0 0 Try.underlying82
def Asks (bi g c : Nat) (rest : List Int) (W : World) : Prop := W.cell? ⟨bi, 0, none⟩ = some (.slice (some ⟨g, 0, none⟩) rest.length c) ∧ ∀ j, j < rest.length → W.cell? ⟨g, j, none⟩ = some (.int .i64 (rest.getD j 0))
theorem explain1 (bi g c : Nat) (rest : List Int) (hl : rest.length ≤ 3000) : PredS (Asks bi g c rest) 81 #[.pointer (some ⟨bi, 0, none⟩)] (fun x => !rest.contains x) := by
 intro x W h
 have h0 := h.1
 have H := Aside0.mk h.2
 have HL := Aside0.mk hl
 clear h hl
 go_enter Try.func81, Try.ntmps81
 go_wp2_with (fail)
 refine (contains_any g c rest x _ (by have := HL.out; omega) H.out).mono ?_
 rintro e w' ⟨rfl, rfl⟩
 go_wp2
 go_ret
 exact ⟨by simp, Below.refl _ _⟩
theorem Asks.below {bi g c : Nat} {rest : List Int} {W W' : World} (h : Asks bi g c rest W) (hb : Below W.heap.size W W') : Asks bi g c rest W' :=
 ⟨(hb.cell (World.block_lt_of_cell? _ _ h.1)).trans h.1, fun j hj => (hb.cell (World.block_lt_of_cell? _ _ (h.2 j hj))).trans (h.2 j hj)⟩
theorem Asks.far {bi g c : Nat} {rest : List Int} {W : World} (h : Asks bi g c rest W) {b : Nat} (h1 : b ≠ bi) (h2 : b ≠ g) (i : Nat) (u : Value) : Asks bi g c rest (W.setCell ⟨b, i, none⟩ u) :=
 ⟨(World.cell?_setCell_other _ _ _ _ (fun e => h1 (by injection e))).trans h.1, fun j hj => (World.cell?_setCell_other _ _ _ _ (fun e => h2 (by injection e))).trans (h.2 j hj)⟩
theorem cutL_length {left : List Int} {i : Nat} (h : i < left.length) : (cutL left i).length + 1 = left.length := by unfold cutL; rw [List.length_append, List.length_take, List.length_drop]; omega
theorem cutL_mem {left : List Int} {i : Nat} {x : Int} (h : x ∈ cutL left i) : x ∈ left := (List.mem_append.1 h).elim List.mem_of_mem_take List.mem_of_mem_drop
set_option maxHeartbeats 4000000 in
set_option maxRecDepth 100000 in
theorem graph_Explain.calls (k : Nat) (a0 : Int) (A1 : Option Addr) (c1 : Nat) (l1 : List (S44)) (r1 : List Int) (r2 : Bool) (r3 : Int) (w : World) (hr1 : Kd.C k44 w A1 l1.length l1) (hc1 : l1.length ≤ c1) (h : graph_Explain.f k a0 l1 = some (r1, r2, r3)) :
  Calls Try.prog 45 #[.int .i64 a0, .slice A1 l1.length c1] w fun e w' => ∃ v0_ : Value, e = .returned (.tuple #[v0_, .bool r2, .int .i64 r3]) ∧ Kd.R (Kd.int .i64) 3 w' w.heap.size (fun _ => True) v0_ r1 ∧ Below w.heap.size w w' := by
 have HR := Aside0.mk hr1
 have HC := Aside0.mk hc1
 have H := Aside0.mk h
 clear hr1 hc1 h
 go_enter Try.func45, Try.ntmps45
 go_wp2_with (fail)
 refine (graph_Valid.calls a0 A1 c1 l1 (validB a0 l1) _ HR.out HC.out rfl).mono ?_
 rintro e w1 ⟨rfl, hb⟩
 have HB := Aside0.mk hb
 clear hb
 have H2 := H.out
 unfold graph_Explain.f at H2
 cases hv : validB a0 l1 with
 | false =>
  rw [hv, if_neg (by decide)] at H2
  injection H2 with H2
  injection H2 with e1 e2
  injection e2 with e2 e3
  subst e1; subst e2; subst e3
  clear hv H
  go_wp2
  (try simp only [Exit.inBlock, Exit.then])
  refine bodyPost_ret (results_list (rs := [.tmp 4, .tmp 5, .tmp 6]) rfl (by simp) (.tmp (.tmp (.tmp .nil)))) rfl ?_
  exact ⟨_, rfl, Kd.R_nil _ _ _ _ _, HB.out⟩
 | true =>
 rw [hv, if_pos rfl] at H2
 obtain ⟨n, rfl, hs⟩ := valid_ok hv
 have HS := Aside0.mk hs
 rw [Int.toNat_natCast] at H2
 clear hv hs H
 obtain ⟨R, hR, H3⟩ := Option.bind_eq_some_iff.1 H2
 have HSE := Aside0.mk hR
 have H := Aside0.mk H3
 clear H2 H3 hR
 go_wp2_with (fail)
 refine (graph_every.calls 0 A1 c1 l1 (upTo l1.length) _ (Kd.C_below HR.out HB.out) HC.out (by unfold graph_every.f; rw [if_pos (by have := HS.out.len; omega)])).mono ?_
 rintro e w2 ⟨v, rfl, hv, hb⟩
 replace HB := Aside0.mk (below_step HB.out hb)
 obtain ⟨A2, c2, hv2⟩ := Kd.R_slice hv
 subst hv2
 have HV := Aside0.mk (Kd.R_reads' hv)
 clear hb hv
 rw [upTo_length]
 go_wp2_with (fail)
 have hm := made_any n l1 (upTo l1.length) A1 c1 A2 c2 w2 HS.out.n1 HS.out.len HS.out.fit (which_upTo l1) (by rw [upTo_length]; exact HS.out.len) (Kd.C_below HR.out HB.out) HC.out HV.out.2.2 HV.out.2.1
 rw [upTo_length] at hm
 refine hm.mono ?_
 clear hm
 rintro e w3 ⟨g, ob, vs, rfl, hg, hrows, hgg, hob, hb⟩
 replace HB := Aside0.mk (below_step HB.out hb)
 have HG := Aside0.mk hg
 have HRW := Aside0.mk hrows
 clear hg hrows hgg hob hb HV
 go_wp2_with (fail)
 refine (far_made k n (n : Int) l1 (upTo l1.length) R HS.out (which_upTo l1) HSE.out (by omega) (by omega) g ob _ vs _ HG.out HRW.out).mono ?_
 rintro e w4 ⟨v4, v5, v6, v7, rfl, ho, hb⟩
 have HZ := Aside0.mk (below_size HB.out)
 replace HB := Aside0.mk (below_step HB.out hb)
 have HO := Aside0.mk ho
 clear ho hb HG HRW
 cases R with
 | done s =>
  obtain ⟨bs, bk, bl, rfl, rfl, rfl, rfl, _⟩ := HO.out
  have H2 := H.out
  injection H2 with H2
  injection H2 with e1 e2
  injection e2 with e2 e3
  subst e1; subst e2; subst e3
  clear HO H
  have qn := nil_eql
  go_wp2
  (try simp only [Exit.inBlock, Exit.then])
  refine bodyPost_ret (results_list (rs := [.tmp 4, .tmp 5, .tmp 6]) rfl (by simp) (.tmp (.tmp (.tmp .nil)))) rfl ?_
  exact ⟨_, rfl, Kd.R_nil _ _ _ _ _, HB.out⟩
 | loop lp =>
 obtain ⟨rfl, rfl, rfl, hne, hl⟩ := HO.out
 obtain ⟨b7, c7, hv7, _⟩ := Kd.R_form hl (List.length_pos_iff.2 hne)
 subst hv7
 obtain ⟨r, hr, H3⟩ := Option.map_eq_some_iff.1 H.out
 injection H3 with e1 e2
 injection e2 with e2 e3
 subst e1; subst e2; subst e3
 replace H := Aside0.mk hr
 have HLP := Aside0.mk (Kd.R_reads' hl)
 have HLL := Aside0.mk (search_len HSE.out)
 clear HO hl hne hr HSE
 have qn := fun w => some_eql w b7 lp.length c7
 go_wp2_with (fail)
 clear qn
 refine (used_any lp _ c7 _ HLP.out.2.2 HLP.out.2.1 HLL.out).mono ?_
 rintro e w5 ⟨v, rfl, hv, hb⟩
 have HZ2 := Aside0.mk (below_size HB.out)
 replace HB := Aside0.mk (below_step HB.out hb)
 have HL := Aside0.mk (Kd.R_lower hv HZ2.out)
 obtain ⟨A2, c2, hv2⟩ := Kd.R_slice hv
 subst hv2
 clear hb hv HLP HLL HZ HZ2
 obtain ⟨left, hleft⟩ : ∃ left, left = usedL lp := ⟨_, rfl⟩
 rw [← hleft] at HL H ⊢
 clear hleft
 have HG3 : left.length ≤ 3000 ∧ ∀ x ∈ left, 0 ≤ x ∧ x < l1.length := by
  have h2 := H.out
  cases k with
  | zero => cases h2
  | succ k =>
   simp only [expL] at h2
   split at h2
   ·rename_i h3; exact h3
   ·cases h2
 have HG := Aside0.mk HG3
 clear HG3
 go_wp2_with (fail)
 refine (ring_any n l1 left A1 c1 A2 c2 _ HS.out (fun x hx => HG.out.2 x hx) (by have := HG.out.1; omega) (Kd.C_below HR.out HB.out) HC.out (Kd.R_reads' HL.out).2.2 (Kd.R_reads' HL.out).2.1).mono ?_
 rintro e w6 ⟨rfl, hb⟩
 replace HB := Aside0.mk (below_step HB.out hb)
 replace HL := Aside0.mk (Kd.R_below HL.out hb)
 clear hb HG
 go_wp2
 go_loopg [11, 12] k (fun kq v11 v12 w' => ∃ (i : Nat) (left : List Int) (A : Option Addr) (c : Nat), v11 = .slice A left.length c ∧ v12 = .int .i64 (i : Int) ∧ Aside0 (expL k n l1 kq i left = some r) ∧ Aside0 ((Kd.int .i64).R 3 w' w.heap.size (fun _ => True) (.slice A left.length c) left) ∧ Aside0 (Below w.heap.size w w'))
 case atStart => exact ⟨0, left, A2, c2, rfl, rfl, H, HL, HB⟩
 case round =>
  clear H HL HB
  obtain ⟨i, left, A, c, rfl, rfl, H, HL, HB⟩ := hrel
  cases gk with
  | zero => exact absurd H.out (by simp [expL])
  | succ f =>
   have H2 := H.out
   simp only [expL] at H2
   by_cases hgd : left.length ≤ 3000 ∧ ∀ x ∈ left, 0 ≤ x ∧ x < l1.length
   case neg => rw [if_neg hgd] at H2; cases H2
   rw [if_pos hgd] at H2
   have HG := Aside0.mk hgd
   clear hgd H
   by_cases hlt : i < left.length
   case neg =>
    rw [if_neg hlt] at H2
    obtain rfl := Option.some.inj H2
    clear H2
    go_wp2
    (try simp only [Exit.inBlock, Exit.then])
    refine bodyPost_ret (results_list (rs := [.tmp 4, .tmp 5, .tmp 6]) rfl (by simp) (.tmp (.tmp (.tmp .nil)))) rfl ?_
    exact ⟨_, rfl, HL.out, HB.out⟩
   rw [if_pos hlt] at H2
   obtain ⟨R, hR, H3⟩ := Option.bind_eq_some_iff.1 H2
   have HSE := Aside0.mk hR
   have H := Aside0.mk H3
   clear H2 H3 hR
   have hib : wrap64 ((i : Int) + 1) = (i : Int) + 1 := by have := HG.out.1; unfold wrap64; omega
   go_wp2_with (fail)
   refine (cloneI A c left _ (Kd.R_reads' HL.out).2.2 (Kd.R_reads' HL.out).2.1 (by have := HG.out.1; omega)).mono ?_
   rintro e w2 ⟨v, rfl, hv, hb⟩
   obtain ⟨g, cap, hv2, hg1, _, _⟩ := Kd.R_form hv (by omega)
   subst hv2
   have HCL := Aside0.mk hv
   have HBC := Aside0.mk hb
   have HGE := Aside0.mk hg1
   clear hb hv hg1
   have HZ := Aside0.mk (below_size HB.out)
   go_wp2_with (fail)
   refine (delete_any g cap i left _ _ HCL.out hlt).mono ?_
   rintro e w3 ⟨rfl, hd, hgr⟩
   have hb := below_grown HBC.out hgr HGE.out
   obtain ⟨rest, hrest⟩ : ∃ rest, rest = cutL left i := ⟨_, rfl⟩
   have hd2 : Kd.R (Kd.int .i64) 3 w3 wr.heap.size (fun _ => True) (.slice (some ⟨g, 0, none⟩) rest.length cap) rest := by rw [hrest]; exact hd
   have e3 : left.take i ++ left.drop (i + 1) = rest := by rw [hrest]; rfl
   rw [e3]
   rw [← hrest] at HSE H
   have HRL := Aside0.mk (show rest.length ≤ 3000 by have := cutL_length hlt; have := HG.out.1; rw [hrest]; omega)
   have HRW := Aside0.mk (show Which l1 rest from fun x hx => HG.out.2 x (cutL_mem (by rw [← hrest]; exact hx)))
   replace HB := Aside0.mk (below_step HB.out hb)
   replace HL := Aside0.mk (Kd.R_below HL.out hb)
   have HD := Aside0.mk hd2
   clear hb hd hd2 e3 hrest hgr HCL HBC
   have z0 : (w3.alloc (.cells #[.slice (some ⟨g, 0, none⟩) rest.length cap] 25)).cell? ⟨w3.heap.size, 0, none⟩ = some (.slice (some ⟨g, 0, none⟩) rest.length cap) := (blk_cell (blk_new w3 _) 0).trans rfl
   go_wp2_with (fail)
   have hb := below_alloc (Below.refl w3.heap.size w3) (.cells #[.slice (some ⟨g, 0, none⟩) rest.length cap] 25)
   have HAK := Aside0.mk (show Asks w3.heap.size g cap rest (w3.alloc (.cells #[.slice (some ⟨g, 0, none⟩) rest.length cap] 25)) from ⟨z0, fun j hj => by
    have h1 := (Kd.R_cell (0 : Int) HD.out (j : Int) (by omega) (by omega)).1
    rw [Int.toNat_natCast] at h1
    refine (hb.cell (World.block_lt_of_cell? _ _ h1)).trans (h1.trans ?_)
    show some (Value.int .i64 (rdOf 0 rest (j : Int))) = _
    unfold rdOf
    rw [Int.toNat_natCast]⟩)
   have HBI := Aside0.mk (show w3.heap.size < (w3.alloc (.cells #[.slice (some ⟨g, 0, none⟩) rest.length cap] 25)).heap.size by simp [World.size_alloc])
   have HGI := Aside0.mk (Kd.R_lt HD.out g rfl)
   replace HB := Aside0.mk (below_step HB.out hb)
   replace HL := Aside0.mk (Kd.R_below HL.out hb)
   replace HD := Aside0.mk (Kd.R_below HD.out hb)
   clear hb z0
   generalize w3.alloc (.cells #[.slice (some ⟨g, 0, none⟩) rest.length cap] 25) = w4 at HB HL HD HAK HBI ⊢
   generalize w3.heap.size = bi at HAK HBI HGI ⊢
   have hm := made_any n l1 rest A1 c1 (some ⟨g, 0, none⟩) cap w4 HS.out.n1 HS.out.len HS.out.fit HRW.out HRL.out (Kd.C_below HR.out HB.out) HC.out (Kd.R_reads' HD.out).2.2 (Kd.R_reads' HD.out).2.1
   refine hm.mono ?_
   clear hm
   rintro e w5 ⟨gn, ob, vs, rfl, hg, hrows, hgg, hob, hb⟩
   replace HB := Aside0.mk (below_step HB.out hb)
   replace HL := Aside0.mk (Kd.R_below HL.out hb)
   replace HAK := Aside0.mk (HAK.out.below hb)
   replace HBI := Aside0.mk (Nat.lt_of_lt_of_le HBI.out hb.size)
   have HGN := Aside0.mk hg
   have HRW2 := Aside0.mk hrows
   clear hg hrows hgg hob hb HD
   go_wp2_with (fail)
   refine (far_made k n (n : Int) l1 rest R HS.out HRW.out HSE.out (by omega) (by omega) gn ob _ vs _ HGN.out HRW2.out).mono ?_
   rintro e w6 ⟨v4, v5, v6, v7, rfl, ho, hb⟩
   have HZ6 := Aside0.mk (below_size HB.out)
   replace HB := Aside0.mk (below_step HB.out hb)
   replace HL := Aside0.mk (Kd.R_below HL.out hb)
   replace HAK := Aside0.mk (HAK.out.below hb)
   replace HBI := Aside0.mk (Nat.lt_of_lt_of_le HBI.out hb.size)
   have HO := Aside0.mk ho
   clear ho hb HGN HRW2
   cases R with
   | done s =>
    obtain ⟨bs, bk, bl, rfl, rfl, rfl, rfl, _⟩ := HO.out
    have H2 : Aside0 (expL k n l1 f (i + 1) left = some r) := H
    clear HO H HAK
    have qn := nil_neq
    go_wp2
    clear qn
    go_roundg f
    case measure => omega
    case rel => exact ⟨i + 1, left, A, c, rfl, by go_num, H2, HL, HB⟩
   | loop lp =>
    obtain ⟨rfl, rfl, rfl, hne, hl⟩ := HO.out
    obtain ⟨b7, c7, hv7, _⟩ := Kd.R_form hl (List.length_pos_iff.2 hne)
    subst hv7
    have H2 : Aside0 (expL k n l1 f 0 (leftB (fun x => !rest.contains x) (usedL lp)) = some r) := H
    have HLP := Aside0.mk (Kd.R_reads' hl)
    have HLL := Aside0.mk (search_len HSE.out)
    clear HO hl hne H HSE HL
    have qn := fun w => some_neq w b7 lp.length c7
    go_wp2_with (fail)
    clear qn
    refine (used_any lp _ c7 _ HLP.out.2.2 HLP.out.2.1 HLL.out).mono ?_
    rintro e w7 ⟨v, rfl, hv, hb⟩
    have HZ7 := Aside0.mk (below_size HB.out)
    replace HB := Aside0.mk (below_step HB.out hb)
    replace HAK := Aside0.mk (HAK.out.below hb)
    have HU := Aside0.mk hv
    obtain ⟨A2, c2, hv2⟩ := Kd.R_slice hv
    subst hv2
    clear hb hv HLP HLL
    go_wp2_with (fail)
    refine (deleteF (Asks bi g cap rest) 81 #[.pointer (some ⟨bi, 0, none⟩)] (enters_of Try.func81 (by kernel_rfl) rfl) (fun x => !rest.contains x) A2 c2 (usedL lp) w6.heap.size (fun _ => True) _ HAK.out (fun W W' h hb => h.below hb)
     (fun b hA W i u h => h.far (fun e => by have h1 := Kd.R_base HU.out b (by rw [hA]; rfl); have h2 := HBI.out; omega) (fun e => by have h1 := Kd.R_base HU.out b (by rw [hA]; rfl); have h2 := HBI.out; have h3 := HGI.out; omega) i u) (explain1 bi g cap rest HRL.out) HU.out).mono ?_
    rintro e w8 ⟨rfl, hre, _, hg⟩
    have HB8 := Aside0.mk (below_grownO HB.out hg (fun b hb => Nat.le_trans HZ7.out (Kd.R_base HU.out b hb)))
    have HL8 := Aside0.mk (Kd.R_lower hre HZ7.out)
    clear hre hg HU HAK HB
    obtain ⟨nl, hnl⟩ : ∃ nl, leftB (fun x => !rest.contains x) (usedL lp) = nl := ⟨_, rfl⟩
    rw [hnl] at HL8 H2 ⊢
    clear hnl
    go_wp2
    go_roundg f
    case measure => omega
    case rel => exact ⟨0, _, A2, c2, rfl, rfl, H2, HL8, HB8⟩
theorem comp_upTo (zs : List Int) (h : zs.Pairwise (· ≤ ·)) : ∀ m, m ≤ zs.length → (Lib.compactUpTo zs.toArray m).Pairwise (· < ·) ∧ (∀ x, x ∈ Lib.compactUpTo zs.toArray m ↔ ∃ j, j < m ∧ zs[j]? = some x)
 | 0, _ => ⟨by simp [Lib.compactUpTo], fun x => by simp [Lib.compactUpTo]⟩
 | m + 1, hm => by
  obtain ⟨h1, h2⟩ := comp_upTo zs h m (by omega)
  have e : ∀ j, j < zs.length → zs.toArray[j]! = zs[j]! := fun j hj => by simp
  have eg : ∀ j (hj : j < zs.length), zs.toArray[j]! = zs[j] := fun j hj => by simp [hj]
  have hle : ∀ i j (hi : i < zs.length) (hj : j < zs.length), i ≤ j → zs[i] ≤ zs[j] := fun i j hi hj hij => by
   rcases Nat.lt_or_eq_of_le hij with h3 | h3
   ·exact List.pairwise_iff_getElem.1 h i j hi hj h3
   ·subst h3; exact Int.le_refl _
  rw [Lib.compactUpTo_succ, eg m (by omega)]
  by_cases hk : Lib.keeps zs.toArray m = true
  ·rw [if_pos hk]
   constructor
   ·rw [List.pairwise_append]
    refine ⟨h1, by simp, fun x hx y hy => ?_⟩
    rw [List.mem_singleton.1 hy]
    obtain ⟨j, hj, hjx⟩ := (h2 x).1 hx
    obtain ⟨hj1, rfl⟩ := List.getElem?_eq_some_iff.1 hjx
    have h3 := hle j (m - 1) hj1 (by omega) (by omega)
    have h4 := hle (m - 1) m (by omega) (by omega) (by omega)
    have h5 : m = 0 ∨ zs.toArray[m]! ≠ zs.toArray[m - 1]! := of_decide_eq_true hk
    rw [eg m (by omega), eg (m - 1) (by omega)] at h5
    omega
   ·intro x
    rw [List.mem_append, h2, List.mem_singleton]
    constructor
    ·rintro (⟨j, hj, h3⟩ | h3)
     ·exact ⟨j, by omega, h3⟩
     ·exact ⟨m, by omega, by rw [h3, List.getElem?_eq_getElem (by omega)]⟩
    ·rintro ⟨j, hj, h3⟩
     by_cases e2 : j = m
     ·subst e2
      right
      rw [List.getElem?_eq_getElem (by omega)] at h3
      exact (Option.some.inj h3).symm
     ·exact .inl ⟨j, by omega, h3⟩
  ·rw [if_neg hk, List.append_nil]
   refine ⟨h1, fun x => ?_⟩
   rw [h2]
   have h5 : ¬ (m = 0 ∨ zs.toArray[m]! ≠ zs.toArray[m - 1]!) := fun h6 => hk (decide_eq_true h6)
   have h6 : m ≠ 0 := fun e2 => h5 (.inl e2)
   have h7 : zs.toArray[m]! = zs.toArray[m - 1]! := Classical.byContradiction fun e2 => h5 (.inr e2)
   rw [eg m (by omega), eg (m - 1) (by omega)] at h7
   constructor
   ·rintro ⟨j, hj, h3⟩; exact ⟨j, by omega, h3⟩
   ·rintro ⟨j, hj, h3⟩
    by_cases e2 : j = m
    ·subst e2
     refine ⟨j - 1, by omega, ?_⟩
     rw [List.getElem?_eq_getElem (by omega)] at h3 ⊢
     rw [← h7]
     exact h3
    ·exact ⟨j, by omega, h3⟩
theorem sort_sorted (zs : List Int) : (sortI zs).Pairwise (· ≤ ·) := by
 have h := List.pairwise_mergeSort (le := fun x y : Int => decide (x ≤ y)) (fun a b c h1 h2 => by simp at h1 h2 ⊢; omega) (fun a b => by simp; omega) zs
 exact h.imp fun h => by simpa using h
theorem used_spec (lp : List S105) : (usedL lp).Pairwise (· < ·) ∧ ∀ x, x ∈ usedL lp ↔ ∃ a ∈ lp, 0 ≤ a.f3 ∧ a.f3 = x := by
 obtain ⟨h1, h2⟩ := comp_upTo (sortI (bysL lp)) (sort_sorted _) (sortI (bysL lp)).length (Nat.le_refl _)
 refine ⟨h1, fun x => (h2 x).trans ?_⟩
 have h3 : (∃ j, j < (sortI (bysL lp)).length ∧ (sortI (bysL lp))[j]? = some x) ↔ x ∈ sortI (bysL lp) := by
  rw [List.mem_iff_getElem?]
  exact ⟨fun ⟨j, _, h⟩ => ⟨j, h⟩, fun ⟨j, h⟩ => ⟨j, (List.getElem?_eq_some_iff.1 h).1, h⟩⟩
 rw [h3]
 unfold sortI bysL
 rw [List.mem_mergeSort, List.mem_map]
 constructor
 ·rintro ⟨a, ha, rfl⟩
  have := List.mem_filter.1 ha
  exact ⟨a, this.1, by simpa using this.2, rfl⟩
 ·rintro ⟨a, ha, h0, rfl⟩
  exact ⟨a, List.mem_filter.2 ⟨ha, by simpa using h0⟩, rfl⟩
theorem asc_len : ∀ (l : List Int) (lo hi : Int), l.Pairwise (· < ·) → (∀ x ∈ l, lo ≤ x ∧ x < hi) → lo ≤ hi → (l.length : Int) ≤ hi - lo
 | [], lo, hi, _, _, h => by simp; omega
 | x :: l, lo, hi, hp, hx, h => by
  have h1 := hx x List.mem_cons_self
  have h2 := asc_len l (x + 1) hi (List.pairwise_cons.1 hp).2 (fun y hy => ⟨by have := (List.pairwise_cons.1 hp).1 y hy; omega, (hx y (List.mem_cons_of_mem _ hy)).2⟩) (by omega)
  rw [List.length_cons]
  omega
theorem chain_in (last : List S105) : ∀ (m x i : Nat), i < m → lst last (it (nx last) i x) ∈ chainL last m x
 | m + 1, x, 0, _ => List.mem_cons_self
 | m + 1, x, i + 1, h => List.mem_cons_of_mem _ (chain_in last m (nx last x) i (by omega))
theorem loop_unsat {n s : Nat} {E E2 : List S105} {lp : List S105} (hl : LoopOk n E s lp) (h2 : ∀ a ∈ lp, a ∈ E → a ∈ E2) {val : Nat → Int} (hv : Sol n E2 val) : False := by
 obtain ⟨last, m, x, rfl, h1, h3, h4, _⟩ := hl.ex
 have h5 := ((hv.closed s).chain last m x rfl (fun i hi => ⟨h2 _ (chain_in last m x i hi) (h4 i hi).1, (h4 i hi).2⟩)).2
 rw [h3] at h5
 have := hl.pos
 omega
theorem mem_allArcs {n : Nat} {l : List S44} {which : List Int} {a : S105} : a ∈ allArcs n l which ↔ (∃ v, v < n ∧ a = natArc n v) ∨ ∃ i ∈ which, a ∈ arcsOf n i (rd_T44 l i) := by
 unfold allArcs natArcs
 rw [List.mem_append, List.mem_map, List.mem_flatMap]
 constructor
 ·rintro (⟨v, hv, rfl⟩ | h)
  ·exact .inl ⟨v, List.mem_range.1 hv, rfl⟩
  ·exact .inr h
 ·rintro (⟨v, hv, rfl⟩ | h)
  ·exact .inl ⟨v, List.mem_range.2 hv, rfl⟩
  ·exact .inr h
theorem used_ok {n : Nat} {l : List S44} (hs : SysOk n l) {which : List Int} (hw : Which l which) {s : Nat} {lp : List S105} (hl : LoopOk n (allArcs n l which) s lp) :
  (∀ x ∈ usedL lp, x ∈ which) ∧ ¬ ∃ val, Sol n (allArcs n l (usedL lp)) val := by
 have hby : ∀ a ∈ lp, a ∈ allArcs n l which := fun a ha => by
  obtain ⟨last, m, x, rfl, _, _, h4, _⟩ := hl.ex
  have key : ∀ (m y : Nat), (∀ i, i < m → lst last (it (nx last) i y) ∈ allArcs n l which) → a ∈ chainL last m y → a ∈ allArcs n l which := by
   intro m
   induction m with
   | zero => intro y _ h; cases h
   | succ m ih =>
    intro y h5 h6
    rcases List.mem_cons.1 h6 with h7 | h7
    ·rw [h7]; exact h5 0 (by omega)
    ·exact ih (nx last y) (fun i hi => h5 (i + 1) (by omega)) h7
  exact key m x (fun i hi => (h4 i hi).1) ha
 have hin : ∀ a ∈ allArcs n l which, 0 ≤ a.f3 → a.f3 ∈ which ∧ a ∈ arcsOf n a.f3 (rd_T44 l a.f3) := fun a ha h0 => by
  rcases mem_allArcs.1 ha with ⟨v, _, rfl⟩ | ⟨i, hi, h1⟩
  ·simp only [natArc] at h0; omega
  ·have hx := hw i hi
   have e := (arcs_mem (hs.fit _ (mem_rd44 hx.1 hx.2)) (Int.natCast_nonneg n) h1).2.2.2.2.2.2
   rw [e]
   exact ⟨hi, h1⟩
 refine ⟨fun x hx => ?_, fun ⟨val, hv⟩ => loop_unsat hl (fun a ha haE => ?_) hv⟩
 ·obtain ⟨a, ha, h0, rfl⟩ := ((used_spec lp).2 x).1 hx
  exact (hin a (hby a ha) h0).1
 ·rcases mem_allArcs.1 haE with ⟨v, hv, rfl⟩ | ⟨i, hi, h1⟩
  ·exact mem_allArcs.2 (.inl ⟨v, hv, rfl⟩)
  ·have hx := hw i hi
   have e := (arcs_mem (hs.fit _ (mem_rd44 hx.1 hx.2)) (Int.natCast_nonneg n) h1).2.2.2.2.2.2
   refine mem_allArcs.2 (.inr ⟨i, ((used_spec lp).2 i).2 ⟨a, ha, by omega, e⟩, h1⟩)
structure CoreOk (n : Nat) (l : List S44) (left : List Int) : Prop where
 asc : left.Pairwise (· < ·)
 which : Which l left
 no : ¬ ∃ val, Sol n (allArcs n l left) val
theorem CoreOk.len {n : Nat} {l : List S44} {left : List Int} (h : CoreOk n l left) : left.length ≤ l.length := by
 have := asc_len left 0 l.length h.asc (fun x hx => h.which x hx) (by omega)
 omega
theorem cutL_which {l : List S44} {left : List Int} (h : Which l left) (i : Nat) : Which l (cutL left i) := fun x hx => h x (cutL_mem hx)
theorem leftB_all_in {rest l : List Int} (h : ∀ x ∈ l, x ∈ rest) : leftB (fun x => !rest.contains x) l = l := by
 unfold leftB
 rw [List.filter_eq_self]
 intro x hx
 simp [h x hx]
theorem cutL_sub {left : List Int} {i : Nat} (hi : i < left.length) {l2 : List Int} (h1 : l2.Pairwise (· < ·)) (h2 : ∀ x ∈ l2, x ∈ cutL left i) (ha : left.Pairwise (· < ·)) : l2.length < left.length := by
 have key : ∀ (a b : List Int), a.Pairwise (· < ·) → b.Pairwise (· < ·) → (∀ x ∈ a, x ∈ b) → a.length ≤ b.length := by
  intro a
  induction a with
  | nil => intro b _ _ _; exact Nat.zero_le _
  | cons x a ih =>
   intro b hpa hpb hs
   obtain ⟨j, hj, hx⟩ := List.getElem_of_mem (hs x List.mem_cons_self)
   have := ih (b.drop (j + 1)) (List.pairwise_cons.1 hpa).2 (hpb.sublist (List.drop_sublist _ _)) (fun y hy => by
    obtain ⟨k, hk, hky⟩ := List.getElem_of_mem (hs y (List.mem_cons_of_mem _ hy))
    have hlt := (List.pairwise_cons.1 hpa).1 y hy
    have hjk : j < k := by
     rcases Nat.lt_trichotomy j k with h | h | h
     ·exact h
     ·subst h; omega
     ·have := List.pairwise_iff_getElem.1 hpb k j hk hj h; omega
    rw [← hky]
    exact List.mem_of_getElem? (i := k - (j + 1)) (by rw [List.getElem?_drop, show j + 1 + (k - (j + 1)) = k by omega, List.getElem?_eq_getElem hk]))
   rw [List.length_drop] at this
   rw [List.length_cons]
   omega
 have hc : (cutL left i).Pairwise (· < ·) := ha.sublist (by
  have h3 : (left.take i ++ left.drop (i + 1)).Sublist (left.take i ++ left.drop i) := List.Sublist.append (List.Sublist.refl _) (by
   rw [List.drop_eq_getElem_cons hi]; exact List.sublist_cons_self _ _)
  rw [List.take_append_drop] at h3
  exact h3)
 have := key l2 (cutL left i) h1 hc h2
 have := cutL_length hi
 omega
theorem expL_ev {n : Nat} {l : List S44} (hs : SysOk n l) : ∀ (M : Nat) (left : List Int) (d i : Nat), left.length ≤ M → d + i = left.length → CoreOk n l left → (∀ j, j < i → ∃ val, Sol n (allArcs n l (cutL left j)) val) →
  ∃ F r, (∃ N, ∀ k, N ≤ k → ∀ f, F ≤ f → expL k n l f i left = some r) ∧ CoreOk n l r ∧ ∀ j, j < r.length → ∃ val, Sol n (allArcs n l (cutL r j)) val := by
 intro M
 induction M with
 | zero =>
  intro left d i hM hd hC hn
  have hz : left = [] := List.length_eq_zero_iff.1 (by omega)
  refine ⟨1, left, ⟨0, fun k _ f hf => ?_⟩, hC, fun j hj => by omega⟩
  obtain ⟨f, rfl⟩ : ∃ m, f = m + 1 := ⟨f - 1, by omega⟩
  simp only [expL]
  rw [if_pos ⟨by omega, fun x hx => hC.which x hx⟩, if_neg (by omega)]
 | succ M ihM =>
  intro left d
  induction d with
  | zero =>
   intro i hM hd hC hn
   refine ⟨1, left, ⟨0, fun k _ f hf => ?_⟩, hC, fun j hj => hn j (by omega)⟩
   obtain ⟨f, rfl⟩ : ∃ m, f = m + 1 := ⟨f - 1, by omega⟩
   have h3 := hC.len
   have h4 := hs.len
   simp only [expL]
   rw [if_pos ⟨by omega, fun x hx => hC.which x hx⟩, if_neg (by omega)]
  | succ d ihd =>
   intro i hM hd hC hn
   have hi : i < left.length := by omega
   have h3 := hC.len
   have h4 := hs.len
   have hw := cutL_which hC.which i
   obtain ⟨R, ⟨N, hN⟩, hR⟩ := search_spec hs hw (Nat.le_refl n)
   cases R with
   | done st =>
    obtain ⟨F, r, ⟨N2, hN2⟩, h5, h6⟩ := ihd (i + 1) hM (by omega) hC (fun j hj => by
     by_cases e : j = i
     ·subst e; exact ⟨_, (least_of hs hw hR).sol⟩
     ·exact hn j (by omega))
    refine ⟨F + 1, r, ⟨max N N2, fun k hk f hf => ?_⟩, h5, h6⟩
    obtain ⟨f, rfl⟩ : ∃ m, f = m + 1 := ⟨f - 1, by omega⟩
    simp only [expL]
    rw [if_pos ⟨by omega, fun x hx => hC.which x hx⟩, if_pos hi, show search k n l (cutL left i) (n : Int) = some _ from hN k (by omega)]
    exact hN2 k (by omega) f (by omega)
   | loop lp =>
    obtain ⟨u1, u2⟩ := used_ok hs hw hR.2
    have u3 := used_spec lp
    have hC2 : CoreOk n l (usedL lp) := ⟨u3.1, fun x hx => hw x (u1 x hx), u2⟩
    have hlt := cutL_sub hi u3.1 u1 hC.asc
    obtain ⟨F, r, ⟨N2, hN2⟩, h5, h6⟩ := ihM (usedL lp) (usedL lp).length 0 (by omega) (by omega) hC2 (fun j hj => by omega)
    refine ⟨F + 1, r, ⟨max N N2, fun k hk f hf => ?_⟩, h5, h6⟩
    obtain ⟨f, rfl⟩ : ∃ m, f = m + 1 := ⟨f - 1, by omega⟩
    simp only [expL]
    rw [if_pos ⟨by omega, fun x hx => hC.which x hx⟩, if_pos hi, show search k n l (cutL left i) (n : Int) = some _ from hN k (by omega)]
    simp only [Option.bind_some]
    rw [leftB_all_in u1]
    exact hN2 k (by omega) f (by omega)
theorem explain_ev {n : Nat} {l : List S44} (hs : SysOk n l) :
  ((∃ val, Sol n (sysArcs n l) val) ∧ Ev (fun k => explainN k n l) ([], false, 0)) ∨
  ((¬ ∃ val, Sol n (sysArcs n l) val) ∧ ∃ r, Ev (fun k => explainN k n l) (r, true, 0) ∧ CoreOk n l r ∧ ∀ j, j < r.length → ∃ val, Sol n (allArcs n l (cutL r j)) val) := by
 obtain ⟨R, ⟨N, hN⟩, hR⟩ := search_spec hs (which_upTo l) (Nat.le_refl n)
 cases R with
 | done st =>
  refine .inl ⟨⟨_, (least_of hs (which_upTo l) hR).sol⟩, N, fun k hk => ?_⟩
  show explainN k n l = _
  unfold explainN
  rw [show search k n l (upTo l.length) (n : Int) = some _ from hN k hk]
  rfl
 | loop lp =>
  right
  obtain ⟨u1, u2⟩ := used_ok hs (which_upTo l) hR.2
  have u3 := used_spec lp
  have hC2 : CoreOk n l (usedL lp) := ⟨u3.1, fun x hx => which_upTo l x (u1 x hx), u2⟩
  obtain ⟨F, r, ⟨N2, hN2⟩, h5, h6⟩ := expL_ev hs _ (usedL lp) (usedL lp).length 0 (Nat.le_refl _) (by omega) hC2 (fun j hj => by omega)
  refine ⟨fun ⟨val, hv⟩ => hv.no_loop hR.2, r, ⟨max N (max N2 F), fun k hk => ?_⟩, h5, h6⟩
  show explainN k n l = _
  unfold explainN
  rw [show search k n l (upTo l.length) (n : Int) = some _ from hN k (by omega)]
  simp only [Option.bind_some]
  rw [hN2 k (by omega) k (by omega)]
  rfl
end Go.Proofs.Ytegejpcglabhbaa.G
