/- One graph more for the closure: the walk of add. No condition. -/
import Derived.Test.YtiepinfcndefhaaSm
namespace Go.Proofs.Ytiepinfcndefhaa.S
open Go.RowKit Go.Conc Go.Proofs.YtiepinfcndefhaaW.PrintWords Go.Proofs.YtiepinfcndefhaaW.PrintLast Go.Proofs.YtiepinfcndefhaaW.PrintMore
set_option linter.unusedVariables false
set_option linter.unusedSimpArgs false

def z83 : Value := .agg ((cG ⟨.empty, .empty, List.replicate 36 0⟩).push (.slice none 0 0))
theorem info83 : (Try.prog.info? 83).map (fun i => (i.zero, i.size, i.bytes)) = some (some z83, kMk.sz, 96) := by kernel_rfl
theorem below_by {w W W2 : World} {g : Nat} (h : Below w.heap.size w W) (hg : W.grownBy W2 (some g)) (hge : w.heap.size ≤ g) : Below w.heap.size w W2 :=
  h.trans ⟨hg.os, hg.tape, hg.output, hg.size, fun k hk => hg.block k (Nat.lt_of_lt_of_le hk h.size) (fun e => by cases e; omega)⟩
theorem loneTo_region' {P : Program} {R : Goroutine → World → Prop} {b : Frame} {cs : List Frame} {a : Act} {w : World} {k : List Item} {id : Nat} {ops : Array Oper} {l : List Nat} (hl : List.range ops.size = l) (h : LoneTo P R (G (b.at a (.inRegion ops l :: k)) cs) w) : LoneTo P R (G (b.at a (.code (.region id ops false) :: k)) cs) w := by
  subst hl
  exact loneTo_region h
/-- A block with a made value that is not the closure's row. -/
def Apart (W : World) (ab kb : Nat) (c : Array Value) : Prop := W.heap[kb]? = some (.cells c 83 (0, 0)) ∧ ∃ va, W.heap[ab]? = some (.cells #[va] 75 (0, 0)) ∧ some kb ≠ va.ownBlock
/-- What add leaves alone. -/
structure Same (W W2 : World) (ab : Nat) : Prop where
  cells : ∀ (k : Nat) (c : Array Value) (t : TypeId), W.heap[k]? = some (.cells c t (0, 0)) → t ≠ 83 → t ≠ 75 → W2.heap[k]? = some (.cells c t (0, 0))
  apart : ∀ (kb : Nat) (c : Array Value), Apart W ab kb c → Apart W2 ab kb c
theorem Same.of_below {W W2 : World} {ab : Nat} (h : Below W.heap.size W W2) : Same W W2 ab := ⟨fun k c t hk _ _ => blk_below hk h, fun kb c ⟨h1, va, h2, h3⟩ => ⟨blk_below h1 h, va, blk_below h2 h, h3⟩⟩
theorem Same.trans {W W2 W3 : World} {ab : Nat} (h : Same W W2 ab) (h2 : Same W2 W3 ab) : Same W W3 ab := ⟨fun k c t hk a b => h2.cells k c t (h.cells k c t hk a b) a b, fun kb c hk => h2.apart kb c (h.apart kb c hk)⟩
/-- The closure with one graph more: the channel has room, and what stands in memory behind the send. -/
theorem Cs.added {w W1 W2 w1 : World} {sb ab tb mb cb cap p : Nat} {all : List Mk} (t : Cs w W1 sb ab tb mb cb cap all p) {va : Value} (ha : W1.heap[ab]? = some (.cells #[va] 75 (0, 0))) (HA : kMk.R 83 W1 w.heap.size (fun _ => True) va all) {g : Gr} {way : List Int} {v : Value} (hg : GOk g) (hv : WayR W1 w.heap.size v way)
    (hm2 : SeenM W2 mb (all ++ [(g, way)])) (hg2 : W1.grownBy W2 (some mb)) {vA : Option Addr} {vc : Nat} (hr1 : kMk.R 83 w1 w.heap.size (fun _ => True) (.slice vA (all ++ [(g, way)]).length vc) (all ++ [(g, way)])) (hb1 : Below w.heap.size w w1) (hg1 : W2.grownBy w1 va.ownBlock) (hat1 : (Value.slice vA (all ++ [(g, way)]).length vc).ownBlock = va.ownBlock ∨ ∃ b, (Value.slice vA (all ++ [(g, way)]).length vc).ownBlock = some b ∧ W2.heap.size ≤ b) (hp : p ≤ all.length) (hcap : all.length < cap + p) :
    ∃ buf s r, (w1.setCell ⟨ab, 0, none⟩ (.slice vA (all.length + 1) vc)).heap[cb]? = some (.chan cap buf false s r false) ∧ buf.size < cap ∧ (w1.setCell ⟨ab, 0, none⟩ (.slice vA (all.length + 1) vc)).heap[tb]? = some (.cells #[.chan (some cb)] 124 (0, 0)) ∧
      Cs w ((w1.setCell ⟨ab, 0, none⟩ (.slice vA (all.length + 1) vc)).setChan cb cap (buf.push (.agg (cM g v))) false (s + 1) r false) sb ab tb mb cb cap (all ++ [(g, way)]) p ∧ Same W1 ((w1.setCell ⟨ab, 0, none⟩ (.slice vA (all.length + 1) vc)).setChan cb cap (buf.push (.agg (cM g v))) false (s + 1) r false) ab := by
  obtain ⟨es, clk, hmo⟩ := seen_obj t.m
  obtain ⟨buf, s, r, hcb, hwt⟩ := t.c
  have hno : ∀ c q, Obj.map es clk ≠ .cells c q (0, 0) := by intro c q; simp
  have put2 : ∀ (k : Nat) (o : Obj), W1.heap[k]? = some o → (∀ es clk, o ≠ .map es clk) → W2.heap[k]? = some o := fun k o hb ho => by
    have hne : some k ≠ some mb := fun e => by
      cases e
      rw [hmo] at hb
      exact ho _ _ (Option.some.inj hb).symm
    rw [hg2.block k (Array.getElem?_eq_some_iff.1 hb).1 hne]
    exact hb
  have HA2 := R_grown HA hmo hno hg2
  have HV2 := R_grown hv hmo hno hg2
  have put1 : ∀ (k : Nat) (o : Obj), W2.heap[k]? = some o → some k ≠ va.ownBlock → w1.heap[k]? = some o := fun k o hb hne => by
    rw [hg1.block k (Array.getElem?_eq_some_iff.1 hb).1 hne]
    exact hb
  have nac : ∀ (k : Nat) (o : Obj), W2.heap[k]? = some o → (∀ c, o ≠ .cells c 83 (0, 0)) → some k ≠ va.ownBlock := fun k o hb ho e => by
    obtain ⟨c, hc⟩ := Kd.R_typed HA2 k e.symm
    rw [hb] at hc
    exact ho _ (Option.some.inj hc)
  have put : ∀ (k : Nat) (o : Obj), W1.heap[k]? = some o → (∀ es clk, o ≠ .map es clk) → (∀ c, o ≠ .cells c 83 (0, 0)) → w1.heap[k]? = some o := fun k o hb h1 h2 => put1 k o (put2 k o hb h1) (nac k o (put2 k o hb h1) h2)
  have hs1 := put sb _ t.sB (by simp) (by simp)
  have ha1 := put ab _ ha (by simp) (by simp)
  have ht1 := put tb _ t.tB (by simp) (by simp)
  have hc1 := put cb _ hcb (by simp) (by simp)
  have ov : ∀ v way, WayR W1 w.heap.size v way → WayR w1 w.heap.size v way := fun v way h => Kd.R_over' (R_grown h hmo hno hg2) (Kd.R_typed HA2) (by decide) hg1
  obtain ⟨es2, clk2, hmo2⟩ := seen_obj hm2
  have hm1 := seen_kept hm2 hg1 (nac mb _ hmo2 (by simp))
  obtain ⟨es3, clk3, hmo3⟩ := seen_obj hm1
  have nab : ∀ (k : Nat) (o : Obj), w1.heap[k]? = some o → (∀ c, o ≠ .cells c 75 (0, 0)) → (w1.setCell ⟨ab, 0, none⟩ (.slice vA (all.length + 1) vc)).heap[k]? = some o := fun k o hb ho => by
    have hne : k ≠ ab := fun e => by
      subst e
      rw [ha1] at hb
      exact ho _ (Option.some.inj hb).symm
    exact (Below.heap_setCell w1 ⟨ab, 0, none⟩ _ k hne).trans hb
  have hs3 := nab sb _ hs1 (by simp)
  have ht3 := nab tb _ ht1 (by simp)
  have hc3 := nab cb _ hc1 (by simp)
  have ha3 := heap_set w1 ab 0 (.slice vA (all.length + 1) vc) _ 75 ha1
  have hr3 := R_cell hr1 ha1 (by decide) 0 (.slice vA (all.length + 1) vc)
  have ov3 : ∀ v way, WayR w1 w.heap.size v way → WayR (w1.setCell ⟨ab, 0, none⟩ (.slice vA (all.length + 1) vc)) w.heap.size v way := fun v way h => R_cell h ha1 (by decide) 0 _
  have hm3 := seen_kept hm1 (grown_cell w1 ab 0 (.slice vA (all.length + 1) vc)) (fun e => by
    cases e
    rw [ha1] at hmo3
    cases hmo3)
  have hb3 := below_set (j := 0) (v := .slice vA (all.length + 1) vc) hb1 t.ge.2.1
  have hbs : buf.size < cap := by
    rw [hwt.1, List.length_drop]
    omega
  refine ⟨buf, s, r, hc3, hbs, ht3, ?_⟩
  have nab' : ∀ (k : Nat) (c : Array Value) (t : TypeId), w1.heap[k]? = some (.cells c t (0, 0)) → t ≠ 75 → (w1.setCell ⟨ab, 0, none⟩ (.slice vA (all.length + 1) vc)).heap[k]? = some (.cells c t (0, 0)) := fun k c t hk ht => nab k _ hk (fun c' e => ht (by injection e))
  obtain ⟨es4, clk4, hmo4⟩ := seen_obj hm3
  generalize w1.setCell ⟨ab, 0, none⟩ (.slice vA (all.length + 1) vc) = W3 at hs3 ht3 hc3 ha3 hr3 ov3 hm3 hb3 hmo4 nab' ⊢
  have hgc := grown_chan W3 cb cap (buf.push (.agg (cM g v))) false (s + 1) r false
  have ncb : ∀ (k : Nat) (o : Obj), W3.heap[k]? = some o → (∀ c b u s r m, o ≠ .chan c b u s r m) → (W3.setChan cb cap (buf.push (.agg (cM g v))) false (s + 1) r false).heap[k]? = some o := fun k o hb ho => by
    have hne : some k ≠ some cb := fun e => by
      cases e
      rw [hc3] at hb
      exact ho _ _ _ _ _ _ (Option.some.inj hb).symm
    rw [hgc.block k (Array.getElem?_eq_some_iff.1 hb).1 hne]
    exact hb
  have hnc : ∀ c q, Obj.chan cap buf false s r false ≠ .cells c q (0, 0) := by intro c q; simp
  have ov4 : ∀ u way, WayR W3 w.heap.size u way → WayR (W3.setChan cb cap (buf.push (.agg (cM g v))) false (s + 1) r false) w.heap.size u way := fun u way h => R_grown h hc3 hnc hgc
  refine ⟨⟨below_by hb3 hgc t.ge.2.2.2.2, ncb sb _ hs3 (by simp), ⟨_, ncb ab _ ha3 (by simp), ?_⟩, ncb tb _ ht3 (by simp), seen_kept hm3 hgc (fun e => by
    cases e
    rw [hc3] at hmo4
    cases hmo4), ⟨buf.push (.agg (cM g v)), s + 1, r, ?_, ?_⟩, t.ge, t.ne⟩, ⟨fun k c q hk n1 n2 => ncb k _ (nab' k c q (put k _ hk (by simp) (fun c' e => n1 (by injection e))) n2) (by simp), fun kb c hk => ?_⟩⟩
  · have h9 := R_grown hr3 hc3 hnc hgc
    have e : (all ++ [(g, way)]).length = all.length + 1 := by simp
    rw [e] at h9
    exact h9
  · have hlt : cb < W3.heap.size := (Array.getElem?_eq_some_iff.1 hc3).1
    simp only [World.setChan]
    rw [Array.getElem?_setIfInBounds_self_of_lt hlt]
  · rw [List.drop_append_of_le_length hp]
    exact (hwt.go fun v way h => ov4 v way (ov3 v way (ov v way h))).push hg (ov4 v way (ov3 v way (ov v way hv)))
  · obtain ⟨h1, va', h2, h3⟩ := hk
    have e : va = va' := by
      rw [ha] at h2
      injection h2 with h2
      injection h2 with h2
      injection h2 with h2
      injection h2
    subst e
    have h4 := put2 kb _ h1 (by simp)
    refine ⟨ncb kb _ (nab' kb c 83 (put1 kb _ h4 h3) (by decide)) (by simp), _, ncb ab _ ha3 (by simp), ?_⟩
    have e2 : (Value.slice vA (all.length + 1) vc).ownBlock = (Value.slice vA (all ++ [(g, way)]).length vc).ownBlock := by
      rw [List.length_append]
      rfl
    show some kb ≠ (Value.slice vA (all.length + 1) vc).ownBlock
    rw [e2]
    rcases hat1 with h5 | ⟨b, h5, h6⟩
    · rw [h5]; exact h3
    · rw [h5]
      intro e7
      cases e7
      have := (Array.getElem?_eq_some_iff.1 h4).1
      omega
set_option maxRecDepth 100000 in
theorem add_calls {w W : World} {sb ab tb mb cb cap : Nat} {all : List Mk} {p : Nat} (t : Cs w W sb ab tb mb cb cap all p) {g : Gr} (hg : GOk g) {v : Value} {way : List Int} (hv : WayR W w.heap.size v way) (hl : all.length ≤ 2000) (hp : p ≤ all.length) (hcap : all.length < cap + p) :
    Calls Try.prog 65 #[.agg (cM g v), .pointer (some ⟨sb, 0, none⟩), .pointer (some ⟨ab, 0, none⟩), .pointer (some ⟨tb, 0, none⟩)] W fun e W2 => (∃ all2, addM all g way = some all2 ∧ e = .returned (.bool true) ∧ Cs w W2 sb ab tb mb cb cap all2 p ∧ Same W W2 ab) ∨ (addM all g way = none ∧ e = .returned (.bool false) ∧ Below w.heap.size w W2) := by
  have T0 := Aside0.mk t
  have HG := Aside0.mk hg
  have HV := Aside0.mk hv
  have HMS := Aside0.mk (cM_size hg v)
  have HAT := Aside0.mk (fun j u h => cM_at (g := g) (v := v) j u h)
  have HGS := Aside0.mk (cG_size hg.tab)
  clear hg hv t
  generalize hcm : cM g v = cm at HMS HAT
  have HCM := Aside0.mk hcm
  clear hcm
  refine calls_of_loneTo (hno := by rintro w' (⟨_, _, h, _⟩ | ⟨_, h, _⟩) <;> cases h) fun cs => ?_
  have e : Frame.enter Try.prog 65 #[.agg cm, .pointer (some ⟨sb, 0, none⟩), .pointer (some ⟨ab, 0, none⟩), .pointer (some ⟨tb, 0, none⟩)] .normal = ({ (default : Frame) with fn := 65, kind := .normal } : Frame).at ⟨#[.agg cm, .pointer (some ⟨sb, 0, none⟩), .pointer (some ⟨ab, 0, none⟩), .pointer (some ⟨tb, 0, none⟩), undef, undef, undef, undef, undef, undef, undef, undef, undef, undef, undef, undef, undef, undef, undef, undef, undef, undef], []⟩ [.code (Try.f65.body.getD .skip)] := by
    simp [Frame.enter, Frame.at, Try.func65, Try.f65]
  rw [e]
  clear e
  generalize hB : ({ (default : Frame) with fn := 65, kind := .normal } : Frame) = B
  have HB := Aside0.mk hB
  clear hB
  simp only [Try.f65, Option.getD_some]
  refine loneTo_seq (loneTo_wp ?_)
  go_wp2
  change LoneTo _ _ _ _
  have T1 := Aside0.mk (T0.out.go (below_alloc (Below.refl W.heap.size W) (.cells cm 83)))
  have M0 := Aside0.mk (blk_new W (.cells cm 83))
  have HSA := Aside0.mk (Same.of_below (ab := ab) (below_alloc (Below.refl W.heap.size W) (.cells cm 83)))
  have HV1 := Aside0.mk (Kd.R_below HV.out (below_alloc (Below.refl W.heap.size W) (.cells cm 83)))
  have HMB := Aside0.mk (T0.out.below.size)
  have HNB : Aside0 (∀ va, (W.alloc (.cells cm 83)).heap[ab]? = some (.cells #[va] 75 (0, 0)) → some W.heap.size ≠ va.ownBlock) := ⟨by
    obtain ⟨va0, a0, A0⟩ := T0.out.aB
    intro va hva e
    have h2 := (blk_below a0 (below_alloc (Below.refl W.heap.size W) (.cells cm 83))).symm.trans hva
    have h3 : va0 = va := by injection h2 with h2; injection h2 with h2; injection h2 with h2; injection h2
    subst h3
    have := (Kd.R_bound A0).1 _ e.symm
    omega⟩
  clear T0 HV
  generalize W.alloc (.cells cm 83) = W1 at T1 M0 HV1 HNB HSA ⊢
  obtain ⟨b0, hb0⟩ : ∃ b0, b0 = W.heap.size := ⟨_, rfl⟩
  rw [← hb0] at M0 HMB HNB ⊢
  clear hb0
  obtain ⟨cg, hcg⟩ : ∃ c, c = cG g := ⟨_, rfl⟩
  have HLK := Aside0.mk (show (Instr.lookup 123 (.map (some mb)) (.agg cg) false).run Try.prog W1 = .ok (.bool (all.any fun m => decide (m.1 = g))) W1 from by rw [hcg]; exact seen_look T1.out.m HG.out)
  rw [← hcg] at HAT HGS
  have HCG := Aside0.mk hcg
  clear hcg
  have s0 := blk_at T1.out.sB (k := 0) rfl
  refine loneTo_seq (loneTo_wp ?_)
  cases hs : all.any fun m => decide (m.1 = g) with
  | true =>
    rw [hs] at HLK
    have HR := Aside0.mk (show addM all g way = some all by unfold addM; rw [if_pos hs])
    clear hs
    have hlk := HLK.out
    go_wp2_with (first | ((with_reducible refine gate_load (t := 81) (x := .tmp 7) rfl ?_); refine run_law (by rfl) (.agg cg) (part_run (ty := 81) (x := .tmp 7) (b := b0) (f := 0) (t := 83) (all := cm) (cs := cg) ?h1 ?h2 ?hb HAT.out ?h3 Try.underlying81 ?h4) ?_; (case h1 => rfl); (case h2 => rfl); (case hb => exact M0.out); (case h3 => rfl); (case h4 => rw [HGS.out]; kernel_rfl)))
    intro todo
    have hb := HB.out
    subst hb
    exact LoneTo.done ⟨.returned (.bool true), _, rfl, .inl ⟨all, HR.out, rfl, T1.out, HSA.out⟩, rfl, rfl, rfl, rfl, _, Try.func65, by simp [results, Try.f65, Frame.at]⟩
  | false =>
    rw [hs] at HLK
    have HS := Aside0.mk hs
    clear hs
    have hlk := HLK.out
    go_wp2_with (first | ((with_reducible refine gate_load (t := 81) (x := .tmp 7) rfl ?_); refine run_law (by rfl) (.agg cg) (part_run (ty := 81) (x := .tmp 7) (b := b0) (f := 0) (t := 83) (all := cm) (cs := cg) ?h1 ?h2 ?hb HAT.out ?h3 Try.underlying81 ?h4) ?_; (case h1 => rfl); (case h2 => rfl); (case hb => exact M0.out); (case h3 => rfl); (case h4 => rw [HGS.out]; kernel_rfl)))
    change LoneTo _ _ _ _
    clear hlk HLK
    obtain ⟨W2, hup, hm2, hg2⟩ := seen_put T1.out.m (by omega) HG.out way
    have hup' : (Instr.mapUpdate 123 (.map (some mb)) (.agg cg) (.bool true)).run Try.prog W1 = .ok () W2 := by rw [HCG.out]; exact hup
    have HM2 := Aside0.mk hm2
    have HG2 := Aside0.mk hg2
    clear hup hm2 hg2
    refine loneTo_seq (loneTo_wp ?_)
    go_wp2_with (first | ((with_reducible refine gate_load (t := 81) (x := .tmp 11) rfl ?_); refine run_law (by rfl) (.agg cg) (part_run (ty := 81) (x := .tmp 11) (b := b0) (f := 0) (t := 83) (all := cm) (cs := cg) ?h1 ?h2 ?hb HAT.out ?h3 Try.underlying81 ?h4) ?_; (case h1 => rfl); (case h2 => rfl); (case hb => exact M0.out); (case h3 => rfl); (case h4 => rw [HGS.out]; kernel_rfl)))
    change LoneTo _ _ _ _
    obtain ⟨es, clk, hmo⟩ := seen_obj T1.out.m
    have put : ∀ (k : Nat) (c : Array Value) (t : TypeId), W1.heap[k]? = some (.cells c t (0, 0)) → W2.heap[k]? = some (.cells c t (0, 0)) := fun k c t hb => blk_grown hb HG2.out (by
      intro e2
      cases e2
      rw [hb] at hmo
      cases hmo)
    obtain ⟨va, ha, HA⟩ := T1.out.aB
    have M2 := Aside0.mk (put _ _ _ M0.out)
    have A2 := Aside0.mk (put _ _ _ ha)
    have HA2 := Aside0.mk (R_grown HA hmo (by intro c t; simp) HG2.out)
    have HV2 := Aside0.mk (R_grown HV1.out hmo (by intro c t; simp) HG2.out)
    have HB2 := Aside0.mk (below_by T1.out.below HG2.out T1.out.ge.2.2.2.1)
    have HP := Aside0.mk (show kMk.M W2 w.heap.size (fun k => True ∧ some k ≠ va.ownBlock) (g, way) cm.toList from ⟨(cG g).toList, [v], by rw [← HCM.out]; simp [cM], ⟨rfl, HG.out⟩, v, rfl, Kd.R_apart' HV2.out (Kd.R_typed HA2.out) (by decide)⟩)
    have HLL := Aside0.mk hl
    have HAa := Aside0.mk ha
    have HAA := Aside0.mk HA
    have HNV := Aside0.mk (HNB.out va ha)
    have HPC := Aside0.mk (And.intro hp hcap)
    clear ha HA put hmo HNB hp hcap
    have a0 := blk_at A2.out (k := 0) rfl
    have hms := HMS.out
    refine loneTo_seq (loneTo_wp ?_)
    go_wp2_with (first | ((with_reducible refine gate_load (t := 83) (x := .tmp 4) rfl ?_); refine load_whole rfl rfl b0 83 cm _ (by rfl) M2.out Try.underlying83 rfl (by rw [HMS.out]; kernel_rfl) ?_) | (at_builtin; go_loud (rw [lay_n HMS.out (by rfl)]; refine Kd.R_append kMk (w0 := w) (W := W2) w.heap.size rfl (.tmp 13) (.tmp 15) 75 83 z83 96 rfl Try.underlying75 info83 (by rfl) (by decide) (by omega) va all (g, way) cm.toList (fun _ => True) (fun k => True ∧ some k ≠ va.ownBlock) rfl rfl HP.out (fun _ hk => hk) (fun _ _ => trivial) HA2.out HB2.out HB2.out.size (by have := HLL.out; omega) ?_; intro v1 w1 hr1 hb1 hg1 hat1; obtain ⟨vA, vc, ev⟩ := Kd.R_slice hr1; subst ev; have a1 := blk_at (blk_grown A2.out hg1 (Kd.R_ne HA2.out A2.out (by decide))) (k := 0) rfl; have f1 := blk_frozen (blk_grown A2.out hg1 (Kd.R_ne HA2.out A2.out (by decide))) 0; have HR1 := Aside0.mk hr1; have HB1 := Aside0.mk hb1; have HG1 := Aside0.mk hg1; have HAT1 := Aside0.mk hat1; clear hr1 hb1 hg1 hat1)))
    change LoneTo _ _ _ _
    clear hms a0 hup'
    have HW3 := Aside0.mk (below_set (j := 0) (v := .slice vA (all.length + 1) vc) HB1.out T1.out.ge.2.1)
    by_cases h2 : 2000 < all.length + 1
    · have HR := Aside0.mk (show addM all g way = none by unfold addM; rw [if_neg (by rw [HS.out]; decide), if_pos h2])
      have d2 : decide ((2000 : Int) < (all.length : Int) + 1) = true := decide_eq_true (by omega)
      clear h2
      refine loneTo_seq (loneTo_wp ?_)
      go_wp2
      intro todo
      have hb := HB.out
      subst hb
      exact LoneTo.done ⟨.returned (.bool false), _, rfl, .inr ⟨HR.out, rfl, HW3.out⟩, rfl, rfl, rfl, rfl, _, Try.func65, by simp [results, Try.f65, Frame.at]⟩
    · have HR := Aside0.mk (show addM all g way = some (all ++ [(g, way)]) by unfold addM; rw [if_neg (by rw [HS.out]; decide), if_neg h2])
      have d2 : decide ((2000 : Int) < (all.length : Int) + 1) = false := decide_eq_false (by omega)
      clear h2
      refine loneTo_seq (loneTo_wp ?_)
      go_wp2
      change LoneTo _ _ _ _
      obtain ⟨buf, s, r, hcb, hroom, htb, hcs, hsm⟩ := Cs.added T1.out HAa.out HAA.out HG.out HV1.out HM2.out HG2.out HR1.out HB1.out HG1.out HAT1.out HPC.out.1 HPC.out.2
      have hm3 : (w1.setCell ⟨ab, 0, none⟩ (.slice vA (all.length + 1) vc)).heap[b0]? = some (.cells cm 83 (0, 0)) := by
        have h1 := (HG1.out.block b0 (Array.getElem?_eq_some_iff.1 M2.out).1 HNV.out).trans M2.out
        refine (Below.heap_setCell w1 ⟨ab, 0, none⟩ _ b0 (fun e => ?_)).trans h1
        have e' : b0 = ab := e
        have h2 := M2.out
        rw [e', A2.out] at h2
        injection h2 with h2
        injection h2 with h2 h3
        cases h3
      generalize w1.setCell ⟨ab, 0, none⟩ (.slice vA (all.length + 1) vc) = W3 at hcb htb hcs hsm hm3 ⊢
      have hk : B.kind ≠ .early := by
        rw [← HB.out]
        intro h
        cases h
      refine loneTo_seq (loneTo_region' (l := [0, 1, 2]) rfl ?_)
      have t0 := blk_at htb (k := 0) rfl
      refine loneTo_value (v := .chan (some cb)) (w' := W3) rfl rfl hk (by go_simp) ?_
      refine loneTo_value (v := .agg cm) (w' := W3) rfl rfl hk (load_run (ty := 83) (x := .tmp 4) (b := b0) (t := 83) rfl rfl hm3 rfl Try.underlying83 (by rw [HMS.out]; kernel_rfl)) ?_
      refine loneTo_send rfl rfl rfl hk (c := cb) (v := .agg cm) (by rfl) (by rfl) hcb hroom ?_
      refine loneTo_region_end ?_
      rw [HCM.out] at hcs hsm
      generalize W3.setChan cb cap (buf.push (.agg cm)) false (s + 1) r false = W4 at hcs hsm ⊢
      have HCS := Aside0.mk hcs
      have HSM := Aside0.mk (HSA.out.trans hsm)
      clear hcs hsm t0 hcb htb hm3 hroom hk
      refine loneTo_wp ?_
      go_wp2
      intro todo
      have hb := HB.out
      subst hb
      exact LoneTo.done ⟨.returned (.bool true), _, rfl, .inl ⟨_, HR.out, rfl, HCS.out, HSM.out⟩, rfl, rfl, rfl, rfl, _, Try.func65, by simp [results, Try.f65, Frame.at]⟩
end Go.Proofs.Ytiepinfcndefhaa.S
