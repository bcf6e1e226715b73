/- Compose: the walk. No condition. -/
import Derived.Test.YtiepinfcndefhaaMd
namespace Go.Proofs.Ytiepinfcndefhaa.S
open Go.RowKit Go.Proofs.YtiepinfcndefhaaW.PrintWords Go.Proofs.YtiepinfcndefhaaW.PrintLast Go.Proofs.YtiepinfcndefhaaW.PrintMore
set_option linter.unusedVariables false
set_option linter.unusedSimpArgs false

/-- A call as an answer: its cells, its arcs readable. -/
def CallOut (w : World) (base : Nat) (d : Cl) (x : Value) : Prop := ∃ v, x = .agg #[.string d.src, .string d.dst, v] ∧ kAc.R 24 w base (fun _ => True) v d.arcs
theorem CallOut.go {w w2 : World} {base : Nat} {d : Cl} {v : Value} (h : CallOut w base d v) (hb : Below w.heap.size w w2) : CallOut w2 base d v := by
  obtain ⟨v, h1, h2⟩ := h
  exact ⟨v, h1, Kd.R_below h2 hb⟩
theorem read2 (A : Option Addr) (cp : Nat) (c : Cl) (w : World) (h : kAc.C w A c.arcs.length c.arcs) (hl : c.arcs.length ≤ 1000000) :
    ∃ g cg ok, readC c = (if ok = true then some g else none) ∧ cg = cG g ∧ cg.size = 38 ∧ cg.all (·.oneCell') = true ∧ (∀ W, Below w.heap.size w W → Calls Try.prog 45 #[.agg #[.string c.src, .string c.dst, .slice A c.arcs.length cp]] W fun e w' => e = .returned (.tuple #[.agg cg, .bool ok]) ∧ Below W.heap.size W w') :=
  ⟨(readR c).1, _, (readR c).2, readR_iff c, rfl, cG_size' (readR_len c), cG_one _, fun W hW => read_calls A cp c W (Kd.C_below h hW) hl⟩
theorem row_step {w W W2 : World} (h0 : Below w.heap.size w W) (h : Below W.heap.size W W2) {b : Nat} {cs : Array Value} (hb : w.heap.size ≤ b) : Below w.heap.size w (W2.setRow b cs) := below_setRow' (below_step h0 h) hb
set_option maxHeartbeats 4000000 in
set_option maxRecDepth 100000 in
theorem comp_calls (A B : Option Addr) (cp cq : Nat) (a b : Cl) (w : World) (ha : kAc.C w A a.arcs.length a.arcs) (hla : a.arcs.length ≤ 1000000) (hb : kAc.C w B b.arcs.length b.arcs) (hlb : b.arcs.length ≤ 1000000) :
    Calls Try.prog 18 #[.agg #[.string a.src, .string a.dst, .slice A a.arcs.length cp], .agg #[.string b.src, .string b.dst, .slice B b.arcs.length cq]] w fun e w' => ∃ v, e = .returned (.tuple #[v, .int .i64 (compF a b).2]) ∧ CallOut w' w.heap.size (compF a b).1 v ∧ Below w.heap.size w w' := by
  obtain ⟨cz, hcz⟩ : ∃ cz, cz = cG ⟨.empty, .empty, List.replicate 36 0⟩ := ⟨_, rfl⟩
  have HZR := Aside0.mk (zero81 cz hcz)
  have HZS := Aside0.mk (show cz.size = 38 by rw [hcz]; exact cG_size' (by simp))
  clear hcz
  obtain ⟨ga, ca, oka, hra, hca, hsa, hoa, hcalla⟩ := read2 A cp a w ha hla
  obtain ⟨gb, cb, okb, hrb, hcb, hsb, hob, hcallb⟩ := read2 B cq b w hb hlb
  have HCA := Aside0.mk hcalla
  have HCB := Aside0.mk hcallb
  have HSA := Aside0.mk hsa
  have HSB := Aside0.mk hsb
  have HOA := Aside0.mk hoa
  have HOB := Aside0.mk hob
  have HF : compF a b = (match readC a, readC b with
    | some g, some h => if g.dst = h.src then (callG (thenG g h), 0) else (dfC, 4)
    | _, _ => (dfC, 4)) := rfl
  have hb0 : Below w.heap.size w (((w.alloc (.cells #[.string a.src, .string a.dst, .slice A a.arcs.length cp] 34)).alloc (.cells #[.string b.src, .string b.dst, .slice B b.arcs.length cq] 34)).alloc (.cells #[.string ⟨#[]⟩, .string ⟨#[]⟩, .slice none 0 0] 34)) := below_step (below_step (below_alloc (Below.refl _ _) _) (below_alloc (Below.refl _ _) _)) (below_alloc (Below.refl _ _) _)
  have HB0 := Aside0.mk hb0
  have HQ1 : Aside0 ((((w.alloc (.cells #[.string a.src, .string a.dst, .slice A a.arcs.length cp] 34)).alloc (.cells #[.string b.src, .string b.dst, .slice B b.arcs.length cq] 34)).alloc (.cells #[.string ⟨#[]⟩, .string ⟨#[]⟩, .slice none 0 0] 34)).heap[w.heap.size + 1]? = some (.cells #[.string b.src, .string b.dst, .slice B b.arcs.length cq] 34 (0, 0))) := ⟨by
    have h1 := blk_new (w.alloc (.cells #[.string a.src, .string a.dst, .slice A a.arcs.length cp] 34)) (.cells #[.string b.src, .string b.dst, .slice B b.arcs.length cq] 34)
    rw [World.size_alloc] at h1
    exact blk_below h1 (below_alloc (Below.refl _ _) _)⟩
  have HQ2 : Aside0 ((((w.alloc (.cells #[.string a.src, .string a.dst, .slice A a.arcs.length cp] 34)).alloc (.cells #[.string b.src, .string b.dst, .slice B b.arcs.length cq] 34)).alloc (.cells #[.string ⟨#[]⟩, .string ⟨#[]⟩, .slice none 0 0] 34)).heap[w.heap.size + 1 + 1]? = some (.cells #[.string ⟨#[]⟩, .string ⟨#[]⟩, .slice none 0 0] 34 (0, 0))) := ⟨by
    have h1 := blk_new ((w.alloc (.cells #[.string a.src, .string a.dst, .slice A a.arcs.length cp] 34)).alloc (.cells #[.string b.src, .string b.dst, .slice B b.arcs.length cq] 34)) (.cells #[.string ⟨#[]⟩, .string ⟨#[]⟩, .slice none 0 0] 34)
    rw [World.size_alloc, World.size_alloc] at h1
    exact h1⟩
  clear hb0 hcalla hcallb hsa hsb hoa hob ha hla hb hlb
  by_cases hbad : oka = false ∨ okb = false ∨ ga.dst ≠ gb.src
  · have HR := Aside0.mk (show compF a b = (dfC, 4) by
      rw [HF, hra, hrb]
      rcases hbad with rfl | rfl | h
      · rfl
      · cases oka <;> rfl
      · cases oka with
        | false => rfl
        | true =>
          cases okb with
          | false => rfl
          | true => exact if_neg h)
    have HA1 := Aside0.mk (show ca[1]? = some (.string ga.dst) by rw [hca]; exact cG_1 ga)
    have HB1' := Aside0.mk (show cb[0]? = some (.string gb.src) by rw [hcb]; exact cG_0 gb)
    clear HF hra hrb hca hcb
    cases oka with
    | false =>
      clear hbad HA1 HB1'
      go_enter Try.func18, Try.ntmps18
      go_wp2_with (first | (go_at_call 45; refine (HCA.out _ HB0.out).mono ?_; rintro e w1 ⟨rfl, hb1⟩; have HB1 := Aside0.mk hb1; clear hb1 HCA) | ((with_reducible refine gate_alloc (t := 81) rfl ?_); refine alloc_zero rfl rfl cz HZR.out ?_) | ((with_reducible refine gate_store (t := 81) (p := 6) rfl ?_); refine store_last rfl rfl rfl _ 81 cz ca (by rfl) (by rfl) rfl (by rw [HSA.out]; kernel_rfl) (HZS.out.trans HSA.out.symm) HOA.out ?_; have HB2 := Aside0.mk (below_step HB1.out (below_alloc (Below.refl w1.heap.size w1) (.cells ca 81))); have HG2 := Aside0.mk (blk_new w1 (.cells ca 81)); have hq := blk_below HQ1.out HB2.out; have y0 := blk_at hq (k := 0) rfl; have y1 := blk_at hq (k := 1) rfl; have y2 := blk_at hq (k := 2) rfl; clear hq; generalize w1.alloc (.cells ca 81) = W2 at HB2 HG2 y0 y1 y2 ⊢; generalize w1.heap.size = gbk at HG2 ⊢) | (go_at_call 45; refine (HCB.out _ (below_step HB0.out HB2.out)).mono ?_; rintro e w3 ⟨rfl, hb3⟩; have HB3 := Aside0.mk hb3; clear hb3 HCB y0 y1 y2) | ((with_reducible refine gate_store (t := 81) (p := 8) rfl ?_); refine store_last rfl rfl rfl _ 81 cz cb (by rfl) (by rfl) rfl (by rw [HSB.out]; kernel_rfl) (HZS.out.trans HSB.out.symm) HOB.out ?_; have HB4 := Aside0.mk (below_step HB2.out (below_step HB3.out (below_alloc (Below.refl w3.heap.size w3) (.cells cb 81)))); have HG4 := Aside0.mk (blk_below HG2.out (below_step HB3.out (below_alloc (Below.refl w3.heap.size w3) (.cells cb 81)))); have HH4 := Aside0.mk (blk_new w3 (.cells cb 81)); generalize w3.alloc (.cells cb 81) = W4 at HB4 HG4 HH4 ⊢; generalize w3.heap.size = hbk at HH4 ⊢) | ((with_reducible refine gate_store (t := 34) (p := 4) rfl ?_); refine store_whole rfl rfl rfl (w.heap.size + 1 + 1) 34 _ #[.string ⟨#[]⟩, .string ⟨#[]⟩, .slice none 0 0] (by rfl) (by rfl) (blk_below HQ2.out HB4.out) (by kernel_rfl) rfl (by simp [Value.oneCell']) ?_; have HQ4 := Aside0.mk (setRow_at _ (w.heap.size + 1 + 1) #[.string ⟨#[]⟩, .string ⟨#[]⟩, .slice none 0 0] _ 34 (blk_below HQ2.out HB4.out)); have HBE := Aside0.mk (row_step (cs := #[.string ⟨#[]⟩, .string ⟨#[]⟩, .slice none 0 0]) (b := w.heap.size + 1 + 1) HB0.out HB4.out (by omega))))
      refine bodyPost_ret (v := .tuple #[.agg #[.string ⟨#[]⟩, .string ⟨#[]⟩, .slice none 0 0], .int .i64 4]) (results_cell2 rfl _ (by rfl) HQ4.out rfl Try.underlying34 (by kernel_rfl) (by rfl)) rfl ?_
      exact ⟨_, by rw [HR.out], by rw [HR.out]; exact ⟨_, rfl, Kd.R_nil _ _ _ _ _⟩, HBE.out⟩
    | true =>
      cases okb with
      | false =>
        clear hbad HA1 HB1'
        go_enter Try.func18, Try.ntmps18
        go_wp2_with (first | (go_at_call 45; refine (HCA.out _ HB0.out).mono ?_; rintro e w1 ⟨rfl, hb1⟩; have HB1 := Aside0.mk hb1; clear hb1 HCA) | ((with_reducible refine gate_alloc (t := 81) rfl ?_); refine alloc_zero rfl rfl cz HZR.out ?_) | ((with_reducible refine gate_store (t := 81) (p := 6) rfl ?_); refine store_last rfl rfl rfl _ 81 cz ca (by rfl) (by rfl) rfl (by rw [HSA.out]; kernel_rfl) (HZS.out.trans HSA.out.symm) HOA.out ?_; have HB2 := Aside0.mk (below_step HB1.out (below_alloc (Below.refl w1.heap.size w1) (.cells ca 81))); have HG2 := Aside0.mk (blk_new w1 (.cells ca 81)); have hq := blk_below HQ1.out HB2.out; have y0 := blk_at hq (k := 0) rfl; have y1 := blk_at hq (k := 1) rfl; have y2 := blk_at hq (k := 2) rfl; clear hq; generalize w1.alloc (.cells ca 81) = W2 at HB2 HG2 y0 y1 y2 ⊢; generalize w1.heap.size = gbk at HG2 ⊢) | (go_at_call 45; refine (HCB.out _ (below_step HB0.out HB2.out)).mono ?_; rintro e w3 ⟨rfl, hb3⟩; have HB3 := Aside0.mk hb3; clear hb3 HCB y0 y1 y2) | ((with_reducible refine gate_store (t := 81) (p := 8) rfl ?_); refine store_last rfl rfl rfl _ 81 cz cb (by rfl) (by rfl) rfl (by rw [HSB.out]; kernel_rfl) (HZS.out.trans HSB.out.symm) HOB.out ?_; have HB4 := Aside0.mk (below_step HB2.out (below_step HB3.out (below_alloc (Below.refl w3.heap.size w3) (.cells cb 81)))); have HG4 := Aside0.mk (blk_below HG2.out (below_step HB3.out (below_alloc (Below.refl w3.heap.size w3) (.cells cb 81)))); have HH4 := Aside0.mk (blk_new w3 (.cells cb 81)); generalize w3.alloc (.cells cb 81) = W4 at HB4 HG4 HH4 ⊢; generalize w3.heap.size = hbk at HH4 ⊢) | ((with_reducible refine gate_store (t := 34) (p := 4) rfl ?_); refine store_whole rfl rfl rfl (w.heap.size + 1 + 1) 34 _ #[.string ⟨#[]⟩, .string ⟨#[]⟩, .slice none 0 0] (by rfl) (by rfl) (blk_below HQ2.out HB4.out) (by kernel_rfl) rfl (by simp [Value.oneCell']) ?_; have HQ4 := Aside0.mk (setRow_at _ (w.heap.size + 1 + 1) #[.string ⟨#[]⟩, .string ⟨#[]⟩, .slice none 0 0] _ 34 (blk_below HQ2.out HB4.out)); have HBE := Aside0.mk (row_step (cs := #[.string ⟨#[]⟩, .string ⟨#[]⟩, .slice none 0 0]) (b := w.heap.size + 1 + 1) HB0.out HB4.out (by omega))))
        refine bodyPost_ret (v := .tuple #[.agg #[.string ⟨#[]⟩, .string ⟨#[]⟩, .slice none 0 0], .int .i64 4]) (results_cell2 rfl _ (by rfl) HQ4.out rfl Try.underlying34 (by kernel_rfl) (by rfl)) rfl ?_
        exact ⟨_, by rw [HR.out], by rw [HR.out]; exact ⟨_, rfl, Kd.R_nil _ _ _ _ _⟩, HBE.out⟩
      | true =>
        have he : ga.dst ≠ gb.src := by
          rcases hbad with h | h | h
          · cases h
          · cases h
          · exact h
        have e2 : (ga.dst.toList == gb.src.toList) = false := beq_eq_false_iff_ne.mpr (fun e => he (bytes_inj e))
        have e1 : (ga.dst == gb.src) = false := (beq_toListBytes _ _).trans e2
        have n1 : (ga.dst != gb.src) = true := by rw [bne, e1]; rfl
        clear hbad he
        go_enter Try.func18, Try.ntmps18
        go_wp2_with (first | (go_at_call 45; refine (HCA.out _ HB0.out).mono ?_; rintro e w1 ⟨rfl, hb1⟩; have HB1 := Aside0.mk hb1; clear hb1 HCA) | ((with_reducible refine gate_alloc (t := 81) rfl ?_); refine alloc_zero rfl rfl cz HZR.out ?_) | ((with_reducible refine gate_store (t := 81) (p := 6) rfl ?_); refine store_last rfl rfl rfl _ 81 cz ca (by rfl) (by rfl) rfl (by rw [HSA.out]; kernel_rfl) (HZS.out.trans HSA.out.symm) HOA.out ?_; have HB2 := Aside0.mk (below_step HB1.out (below_alloc (Below.refl w1.heap.size w1) (.cells ca 81))); have HG2 := Aside0.mk (blk_new w1 (.cells ca 81)); have hq := blk_below HQ1.out HB2.out; have y0 := blk_at hq (k := 0) rfl; have y1 := blk_at hq (k := 1) rfl; have y2 := blk_at hq (k := 2) rfl; clear hq; generalize w1.alloc (.cells ca 81) = W2 at HB2 HG2 y0 y1 y2 ⊢; generalize w1.heap.size = gbk at HG2 ⊢) | (go_at_call 45; refine (HCB.out _ (below_step HB0.out HB2.out)).mono ?_; rintro e w3 ⟨rfl, hb3⟩; have HB3 := Aside0.mk hb3; clear hb3 HCB y0 y1 y2) | ((with_reducible refine gate_store (t := 81) (p := 8) rfl ?_); refine store_last rfl rfl rfl _ 81 cz cb (by rfl) (by rfl) rfl (by rw [HSB.out]; kernel_rfl) (HZS.out.trans HSB.out.symm) HOB.out ?_; have HB4 := Aside0.mk (below_step HB2.out (below_step HB3.out (below_alloc (Below.refl w3.heap.size w3) (.cells cb 81)))); have HG4 := Aside0.mk (blk_below HG2.out (below_step HB3.out (below_alloc (Below.refl w3.heap.size w3) (.cells cb 81)))); have HH4 := Aside0.mk (blk_new w3 (.cells cb 81)); generalize w3.alloc (.cells cb 81) = W4 at HB4 HG4 HH4 ⊢; generalize w3.heap.size = hbk at HH4 ⊢; have x1 := blk_at HG4.out (k := 1) HA1.out; have x0 := blk_at HH4.out (k := 0) HB1'.out) | ((with_reducible refine gate_store (t := 34) (p := 4) rfl ?_); refine store_whole rfl rfl rfl (w.heap.size + 1 + 1) 34 _ #[.string ⟨#[]⟩, .string ⟨#[]⟩, .slice none 0 0] (by rfl) (by rfl) (blk_below HQ2.out HB4.out) (by kernel_rfl) rfl (by simp [Value.oneCell']) ?_; have HQ4 := Aside0.mk (setRow_at _ (w.heap.size + 1 + 1) #[.string ⟨#[]⟩, .string ⟨#[]⟩, .slice none 0 0] _ 34 (blk_below HQ2.out HB4.out)); have HBE := Aside0.mk (row_step (cs := #[.string ⟨#[]⟩, .string ⟨#[]⟩, .slice none 0 0]) (b := w.heap.size + 1 + 1) HB0.out HB4.out (by omega))))
        refine bodyPost_ret (v := .tuple #[.agg #[.string ⟨#[]⟩, .string ⟨#[]⟩, .slice none 0 0], .int .i64 4]) (results_cell2 rfl _ (by rfl) HQ4.out rfl Try.underlying34 (by kernel_rfl) (by rfl)) rfl ?_
        exact ⟨_, by rw [HR.out], by rw [HR.out]; exact ⟨_, rfl, Kd.R_nil _ _ _ _ _⟩, HBE.out⟩
  · have h1 : oka = true := by cases oka <;> simp_all
    have h2 : okb = true := by cases okb <;> simp_all
    have he : ga.dst = gb.src := Classical.byContradiction fun h => hbad (.inr (.inr h))
    subst h1
    subst h2
    clear hbad
    have hra' : readC a = some ga := hra
    have hrb' : readC b = some gb := hrb
    have ta := readC_tab hra'
    have tb := readC_tab hrb'
    have HR := Aside0.mk (show compF a b = (callG (thenG ga gb), 0) by rw [HF, hra', hrb']; exact if_pos he)
    have e2 : (ga.dst.toList == gb.src.toList) = true := by rw [he]; exact beq_self_eq_true _
    have e1 : (ga.dst == gb.src) = true := (beq_toListBytes _ _).trans e2
    have n1 : (ga.dst != gb.src) = false := by rw [bne, e1]; rfl
    have HA1 := Aside0.mk (show ca[1]? = some (.string ga.dst) by rw [hca]; exact cG_1 ga)
    have HB1' := Aside0.mk (show cb[0]? = some (.string gb.src) by rw [hcb]; exact cG_0 gb)
    obtain ⟨ct, hct⟩ : ∃ c, c = cG (thenG ga gb) := ⟨_, rfl⟩
    have HTH := Aside0.mk (fun W => show Calls Try.prog 46 #[.agg ca, .agg cb] W fun e w' => e = .returned (.agg ct) ∧ Below W.heap.size W w' from by
      rw [hca, hcb, hct]
      exact then_calls ga gb ta tb W)
    have HCL := Aside0.mk (fun W => show Calls Try.prog 47 #[.agg ct] W fun e w' => ∃ v, e = .returned (.agg #[.string ga.src, .string gb.dst, v]) ∧ kAc.R 24 w' W.heap.size (fun _ => True) v (arcsN (thenG ga gb).tab 36) ∧ Below W.heap.size W w' from by
      rw [hct]
      exact call_calls (thenG ga gb) (thenG_tab ta tb) W)
    have HRD := Aside0.mk (show callG (thenG ga gb) = ⟨ga.src, gb.dst, arcsN (thenG ga gb).tab 36⟩ from rfl)
    clear hct hca hcb he HF hra hrb hra' hrb' ta tb
    generalize arcsN (thenG ga gb).tab 36 = arcs at HCL HRD
    rw [HRD.out] at HR
    clear HRD
    go_enter Try.func18, Try.ntmps18
    go_wp2_with (first | (go_at_call 45; refine (HCA.out _ HB0.out).mono ?_; rintro e w1 ⟨rfl, hb1⟩; have HB1 := Aside0.mk hb1; clear hb1 HCA) | ((with_reducible refine gate_alloc (t := 81) rfl ?_); refine alloc_zero rfl rfl cz HZR.out ?_) | ((with_reducible refine gate_store (t := 81) (p := 6) rfl ?_); refine store_last rfl rfl rfl _ 81 cz ca (by rfl) (by rfl) rfl (by rw [HSA.out]; kernel_rfl) (HZS.out.trans HSA.out.symm) HOA.out ?_; have HB2 := Aside0.mk (below_step HB1.out (below_alloc (Below.refl w1.heap.size w1) (.cells ca 81))); have HG2 := Aside0.mk (blk_new w1 (.cells ca 81)); have hq := blk_below HQ1.out HB2.out; have y0 := blk_at hq (k := 0) rfl; have y1 := blk_at hq (k := 1) rfl; have y2 := blk_at hq (k := 2) rfl; clear hq; generalize w1.alloc (.cells ca 81) = W2 at HB2 HG2 y0 y1 y2 ⊢; generalize w1.heap.size = gbk at HG2 ⊢) | (go_at_call 45; refine (HCB.out _ (below_step HB0.out HB2.out)).mono ?_; rintro e w3 ⟨rfl, hb3⟩; have HB3 := Aside0.mk hb3; clear hb3 HCB y0 y1 y2) | ((with_reducible refine gate_store (t := 81) (p := 8) rfl ?_); refine store_last rfl rfl rfl _ 81 cz cb (by rfl) (by rfl) rfl (by rw [HSB.out]; kernel_rfl) (HZS.out.trans HSB.out.symm) HOB.out ?_; have HB4 := Aside0.mk (below_step HB2.out (below_step HB3.out (below_alloc (Below.refl w3.heap.size w3) (.cells cb 81)))); have HG4 := Aside0.mk (blk_below HG2.out (below_step HB3.out (below_alloc (Below.refl w3.heap.size w3) (.cells cb 81)))); have HH4 := Aside0.mk (blk_new w3 (.cells cb 81)); generalize w3.alloc (.cells cb 81) = W4 at HB4 HG4 HH4 ⊢; generalize w3.heap.size = hbk at HH4 ⊢; have x1 := blk_at HG4.out (k := 1) HA1.out; have x0 := blk_at HH4.out (k := 0) HB1'.out) | ((with_reducible refine gate_load (t := 81) (x := .tmp 6) rfl ?_); refine load_whole rfl rfl _ 81 ca _ (by rfl) HG4.out Try.underlying81 rfl (by rw [HSA.out]; kernel_rfl) ?_) | ((with_reducible refine gate_load (t := 81) (x := .tmp 8) rfl ?_); refine load_whole rfl rfl _ 81 cb _ (by rfl) HH4.out Try.underlying81 rfl (by rw [HSB.out]; kernel_rfl) ?_) | (go_at_call 46; refine (HTH.out _).mono ?_; rintro e w5 ⟨rfl, hb5⟩; have HB5 := Aside0.mk hb5; clear hb5) | (go_at_call 47; refine (HCL.out _).mono ?_; rintro e w6 ⟨v6, rfl, hr6, hb6⟩; obtain ⟨A6, c6, ev6⟩ := Kd.R_slice hr6; subst ev6; have HR6 := Aside0.mk (Kd.R_lower hr6 (Nat.le_trans (below_step HB0.out HB4.out).size HB5.out.size)); have HB6 := Aside0.mk (below_step HB4.out (below_step HB5.out hb6)); clear hb6 hr6) | ((with_reducible refine gate_store (t := 34) (p := 4) rfl ?_); refine store_whole rfl rfl rfl (w.heap.size + 1 + 1) 34 _ #[.string ga.src, .string gb.dst, .slice A6 arcs.length c6] (by rfl) (by rfl) (blk_below HQ2.out HB6.out) (by kernel_rfl) rfl (by simp [Value.oneCell']) ?_; have HQ4 := Aside0.mk (setRow_at _ (w.heap.size + 1 + 1) #[.string ga.src, .string gb.dst, .slice A6 arcs.length c6] _ 34 (blk_below HQ2.out HB6.out)); have HBE := Aside0.mk (row_step (cs := #[.string ga.src, .string gb.dst, .slice A6 arcs.length c6]) (b := w.heap.size + 1 + 1) HB0.out HB6.out (by omega))))
    refine bodyPost_ret (v := .tuple #[.agg #[.string ga.src, .string gb.dst, .slice A6 arcs.length c6], .int .i64 0]) (results_cell2 rfl _ (by rfl) HQ4.out rfl Try.underlying34 (by kernel_rfl) (by rfl)) rfl ?_
    exact ⟨_, by rw [HR.out], by rw [HR.out]; exact ⟨_, rfl, R_row HR6.out (blk_below HQ2.out HB6.out) (by decide) _⟩, HBE.out⟩
end Go.Proofs.Ytiepinfcndefhaa.S
