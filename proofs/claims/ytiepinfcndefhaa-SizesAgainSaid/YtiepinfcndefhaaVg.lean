/- slices.Clone; bad, and what it finds: walked. No condition. -/
import Derived.Test.YtiepinfcndefhaaVf
import Derived.Test.YtiepinfcndefhaaSq
import Derived.Lib.SliceRun
namespace Go.Proofs.Ytiepinfcndefhaa.S
open Go.RowKit Go.Proofs.YtiepinfcndefhaaW.PrintWords Go.Proofs.YtiepinfcndefhaaW.PrintLast Go.Proofs.YtiepinfcndefhaaW.PrintMore
set_option linter.unusedVariables false
set_option linter.unusedSimpArgs false

theorem empty_R (w : World) : (Kd.int .i64).R 3 (w.alloc (.cells #[] 3)) w.heap.size (fun _ => True) (.slice (some ⟨w.heap.size, 0, none⟩) 0 0) [] :=
  ⟨fun _ _ => trivial, [], ⟨by simp, .inr ⟨w.heap.size, 0, #[], rfl, Nat.le_refl _, blk_new w _, by simp, by simp, by simp, by simp⟩⟩, by simp [Reps]⟩
set_option maxRecDepth 100000 in
theorem clone_calls (A : Option Addr) (c : Nat) (l : List Int) (w : World) (hr : (Kd.int .i64).C w A l.length l) (hlen : l.length ≤ 1000000) :
    Calls Try.prog 42 #[.slice A l.length c] w fun e w' => ∃ v, e = .returned v ∧ IntsOut w' l v ∧ Below w.heap.size w w' := by
  cases A with
  | none =>
    have hl : l = [] := by
      cases l with
      | nil => rfl
      | cons x l => obtain ⟨ad, e, _⟩ := hr.2.2 (Nat.succ_pos _); cases e
    subst hl
    have hn := fun w : World => Lib.run_eql_slice_nil (P := Try.prog) w 36 3 none 0 c 0 0 Try.underlying36
    clear hr hlen
    go_enter Try.func42, Try.ntmps42
    go_wp2
    go_ret
    exact ⟨_, rfl, IntsOut.nil _, Below.refl _ _⟩
  | some ad =>
    have HR := Aside0.mk hr
    have HLN := Aside0.mk hlen
    have hn := fun w : World => Lib.run_eql_slice_nil (P := Try.prog) w 36 3 (some ad) l.length c 0 0 Try.underlying36
    clear hr hlen
    go_enter Try.func42, Try.ntmps42
    go_wp2_with (at_builtin; go_loud (refine Kd.R_append_rows (Kd.int .i64) (Rr := (Kd.int .i64).K (w.alloc (.cells #[] 3))) (w0 := w) w.heap.size rfl (.tmp 5) (.tmp 6) 36 3 (.int .i64 0) 8 rfl Try.underlying36 info3' (by rfl) (by decide) (by decide) (.slice (some ⟨w.heap.size, 0, none⟩) 0 0) [] l (some ad) l.length c (fun _ => True) (fun k_ => some k_ ≠ some w.heap.size) rfl rfl (empty_R w) (Kd.C_below HR.out (below_alloc (Below.refl _ _) _)) (fun x_ cs_ h_ => h_) (fun k_ hk_ => ⟨trivial, by simpa [Value.ownBlock] using hk_⟩) (fun _ _ => trivial) (below_alloc (Below.refl _ _) _) (by simp) (by have := HLN.out; simp; omega) ?_; intro v1 w1 ho hb hg hat; rw [List.nil_append] at ho; have HO := Aside0.mk ho; have HB := Aside0.mk hb; clear ho hb hg hat))
    go_ret
    obtain ⟨A1, c1, e1, _, h1⟩ := Kd.R_reads HO.out
    exact ⟨_, rfl, ⟨A1, c1, e1, h1⟩, HB.out⟩
theorem mk_get2 {w : World} {A : Option Addr} {l : List Mk} (h : kMk.C w A l.length l) (i : Nat) (hi : i < l.length) : ∃ ad v, A = some ad ∧ (GOk l[i].1 ∧ v.oneCell' = true) ∧ (∀ j u, (cM l[i].1 v)[j]? = some u → w.cell? (ad.add (i * 39 + j)) = some u) ∧ IntsOut w l[i].2 v := by
  obtain ⟨ad, c, e, _, hk, hc⟩ := Kd.C_get h (⟨⟨.empty, .empty, []⟩, []⟩ : Mk) (i : Int) (by omega) (by omega)
  rw [Int.toNat_natCast] at hk hc
  rw [show l.getD i (⟨⟨.empty, .empty, []⟩, []⟩ : Mk) = l[i] by rw [List.getD_eq_getElem?_getD, List.getElem?_eq_getElem hi]; rfl] at hk
  obtain ⟨c0, c1, rfl, ⟨rfl, hg⟩, A1, cp, rfl, _, hr⟩ := hk
  refine ⟨ad, .slice A1 l[i].2.length cp, e, ⟨hg, rfl⟩, fun j u hu => ?_, A1, cp, rfl, hr⟩
  refine hc j u ?_
  have : (cM l[i].1 (.slice A1 l[i].2.length cp)).toList = (cG l[i].1).toList ++ [.slice A1 l[i].2.length cp] := by simp [cM]
  rw [← this]
  simpa using hu
theorem idxB_iff2 : ∀ (l : List Mk) (i : Nat), (idxB l i = -1 ∧ l.any (fun m => badB m.1) = false) ∨ (l.any (fun m => badB m.1) = true ∧ ∃ j, idxB l i = ((i + j : Nat) : Int) ∧ ∃ h : j < l.length, badB l[j].1 = true)
  | [], i => .inl ⟨rfl, rfl⟩
  | m :: l, i => by
    unfold idxB
    by_cases h : badB m.1 = true
    · right
      rw [if_pos h]
      exact ⟨by simp [h], 0, rfl, by simp, h⟩
    · rw [if_neg h]
      have h' : badB m.1 = false := Bool.eq_false_iff.mpr h
      rcases idxB_iff2 l (i + 1) with ⟨h1, h2⟩ | ⟨h1, j, h2, h3, h4⟩
      · exact .inl ⟨h1, by simp only [List.any_cons, h', h2, Bool.or_false]⟩
      · exact .inr ⟨by simp only [List.any_cons, h', h1, Bool.or_true], j + 1, by rw [h2]; congr 1; omega, by simpa using h3, by simpa using h4⟩
theorem zero83b : ∃ cz : Array Value, CM cz ∧ cz[38]? = some (.slice none 0 0) ∧ (∀ w, (zeroValue 83).run Try.prog w = .ok (.agg cz) w) := by
  have h : (Try.prog.info? 83).map (fun i => (i.zero, i.size)) = some (some (.agg ((cG ⟨.empty, .empty, List.replicate 36 0⟩).push (.slice none 0 0))), 39) := by kernel_rfl
  refine ⟨_, ⟨by simp [cG], ?_⟩, by rfl, (zero_of_info h).1⟩
  rw [Array.all_push, cG_one]
  rfl
theorem cM_last {g : Gr} (hg : GOk g) (v : Value) : (cM g v)[38]? = some v := by
  have h := cM_size hg v
  unfold cM at h ⊢
  rw [Array.size_push] at h
  rw [show 38 = (cG g).size by omega]
  simp
set_option maxRecDepth 100000 in
theorem bad_calls2 (A : Option Addr) (c : Nat) (l : List Mk) (w : World) (h : kMk.C w A l.length l) (hl : l.length ≤ 1000000) :
    Calls Try.prog 40 #[.slice A l.length c] w fun e w' => ∃ cs v m, e = .returned (.tuple #[.agg cs, .bool (l.any fun m => badB m.1)]) ∧ CM cs ∧ cs[38]? = some v ∧ IntsOut w m.2 v ∧ ((l.any fun m => badB m.1) = true → m ∈ l ∧ badB m.1 = true) ∧ ((l.any fun m => badB m.1) = false → m.2 = []) ∧ Below w.heap.size w w' := by
  obtain ⟨cz, hz, hz8, hzr⟩ := zero83b
  have HZ8 := Aside0.mk hz8
  clear hz8
  have HZ := Aside0.mk hz
  have HC := Aside0.mk h
  have HX := Aside0.mk (fun w' (hw : Below w.heap.size w w') => index_calls A c l w' (Kd.C_below h hw) hl)
  have HI := idxB_iff2 l 0
  go_enter Try.func40, Try.ntmps40
  rcases HI with ⟨hi, ha⟩ | ⟨ha, j, hi, hj, hbj⟩
  · rw [hi] at HX
    have HA := Aside0.mk ha
    clear hi ha
    go_wp2_with (first | ((with_reducible refine gate_alloc (t := 83) rfl ?_); refine alloc_zero rfl rfl cz hzr ?_) | (go_at_call 67; refine (HX.out _ (below_alloc (Below.refl _ _) _)).mono ?_; rintro e w5 ⟨rfl, hb5⟩; have Z0 := Aside0.mk (blk_below (blk_new w (.cells cz 83)) hb5); have HB := Aside0.mk (below_step (below_alloc (Below.refl w.heap.size w) (.cells cz 83)) hb5); clear hb5) | ((with_reducible refine gate_build (t := 83) rfl ?_); refine value_law rfl (.agg cz) ?hr ?_; (case hr => first | (go_simp; done) | (go_simp; rfl)); intro ub hub; have HU := Aside0.mk hub; clear hub) | ((with_reducible refine gate_store (t := 83) (p := 2) rfl ?_); refine store_whole rfl rfl rfl w.heap.size 83 cz cz (by rfl) (by exact HU.out) Z0.out (by rw [HZ.out.size]; kernel_rfl) rfl HZ.out.one ?_; have HBS := Aside0.mk (below_setRow' (cs := cz) HB.out (Nat.le_refl w.heap.size)); have ZS := Aside0.mk (setRow_at _ w.heap.size cz cz 83 Z0.out)))
    refine bodyPost_ret (v := .tuple #[.agg cz, .bool false]) (results_cell2 rfl _ (by rfl) ZS.out rfl Try.underlying83 (by rw [HZ.out.size]; kernel_rfl) (by rfl)) rfl ?_
    exact ⟨cz, .slice none 0 0, (⟨.empty, .empty, []⟩, []), by rw [HA.out], HZ.out, HZ8.out, IntsOut.nil _, fun h => (by rw [HA.out] at h; cases h), fun _ => rfl, HBS.out⟩
  · obtain ⟨ad, v, e, ⟨hg, ho⟩, hc, hio⟩ := mk_get2 HC.out j hj
    have HIO := Aside0.mk hio
    have HM8 := Aside0.mk (cM_last hg v)
    have HME := Aside0.mk (List.getElem_mem hj)
    have HBJ := Aside0.mk hbj
    clear hio hbj
    subst e
    rw [hi, Nat.zero_add] at HX
    have HA := Aside0.mk ha
    have HCC := Aside0.mk hc
    have HM := Aside0.mk (show CM (cM l[j].1 v) from ⟨cM_size hg v, by
      unfold cM
      rw [Array.all_push, cG_one]
      simp [ho]⟩)
    clear hi ha hc hg ho
    generalize cM l[j].1 v = cm at HCC HM HM8
    have hj0 : (j : Int) < (l.length : Int) := by omega
    have hjd : decide ((j : Int) < 0) = false := decide_eq_false (by omega)
    go_wp2_with (first | ((with_reducible refine gate_alloc (t := 83) rfl ?_); refine alloc_zero rfl rfl cz hzr ?_) | (go_at_call 67; refine (HX.out _ (below_alloc (Below.refl _ _) _)).mono ?_; rintro e w5 ⟨rfl, hb5⟩; have Z0 := Aside0.mk (blk_below (blk_new w (.cells cz 83)) hb5); have HB := Aside0.mk (below_step (below_alloc (Below.refl w.heap.size w) (.cells cz 83)) hb5); clear hb5) | ((with_reducible refine gate_load (t := 83) (x := .tmp 12) rfl ?_); refine run_law (by rfl) (.agg cm) (cells_run (ty := 83) (x := .tmp 12) (ad := ad.add (j * 39)) (cs := cm) ?h1 ?h2 ?hs ?h3 Try.underlying83 ?h4) ?_; (case h1 => rfl); (case h2 => rfl); (case hs => exact fun k u hu => by rw [Addr.add_add]; exact pw_cell_below HB.out (HCC.out k u hu)); (case h3 => rfl); (case h4 => rw [HM.out.size]; kernel_rfl)) | ((with_reducible refine gate_store (t := 83) (p := 2) rfl ?_); refine store_whole rfl rfl rfl w.heap.size 83 cz cm (by rfl) (by rfl) Z0.out (by rw [HM.out.size]; kernel_rfl) (HZ.out.size.trans HM.out.size.symm) HM.out.one ?_; have HBS := Aside0.mk (below_setRow' (cs := cm) HB.out (Nat.le_refl w.heap.size)); have ZS := Aside0.mk (setRow_at _ w.heap.size cm cz 83 Z0.out)))
    refine bodyPost_ret (v := .tuple #[.agg cm, .bool true]) (results_cell2 rfl _ (by rfl) ZS.out rfl Try.underlying83 (by rw [HM.out.size]; kernel_rfl) (by rfl)) rfl ?_
    exact ⟨cm, v, l[j], by rw [HA.out], HM.out, HM8.out, HIO.out, fun _ => ⟨HME.out, HBJ.out⟩, fun h => (by rw [HA.out] at h; cases h), HBS.out⟩
end Go.Proofs.Ytiepinfcndefhaa.S
