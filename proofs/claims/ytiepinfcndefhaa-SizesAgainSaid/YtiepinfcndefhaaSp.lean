/- The closure's queue: what is taken out; a loop of a lone goroutine. No condition. -/
import Derived.Test.YtiepinfcndefhaaSo
namespace Go.Proofs.Ytiepinfcndefhaa.S
open Go.RowKit Go.Conc Go.Proofs.YtiepinfcndefhaaW.PrintWords Go.Proofs.YtiepinfcndefhaaW.PrintLast Go.Proofs.YtiepinfcndefhaaW.PrintMore
set_option linter.unusedVariables false
set_option linter.unusedSimpArgs false

/-- What stands in memory in the second and the third loop. -/
structure Lp (w W : World) (sb ab tb mb cb cap : Nat) (gs : List Gr) (vA : Option Addr) (vc : Nat) (all : List Mk) (p : Nat) : Prop where
  cs : Cs w W sb ab tb mb cb cap all p
  r : kGr.R 81 W w.heap.size (fun _ => True) (.slice vA gs.length vc) gs
  len : all.length ≤ 2000
  pos : p ≤ all.length
  ways : ∀ (q : Nat) (m : Mk), all[q]? = some m → m.2.length ≤ q + 1
theorem addM_ways {all a : List Mk} {g : Gr} {w : List Int} (hw : w.length ≤ all.length + 1) (h0 : ∀ (q : Nat) (m : Mk), all[q]? = some m → m.2.length ≤ q + 1) (h : addM all g w = some a) : ∀ (q : Nat) (m : Mk), a[q]? = some m → m.2.length ≤ q + 1 := by
  unfold addM at h
  split at h
  · cases h; exact h0
  · split at h
    · cases h
    · cases h
      intro q m hm
      by_cases hq : q < all.length
      · rw [List.getElem?_append_left hq] at hm
        exact h0 q m hm
      · have hl := (List.getElem?_eq_some_iff.1 hm).1
        have e : q = all.length := by simp at hl; omega
        subst e
        rw [List.getElem?_append_right (Nat.le_refl _), Nat.sub_self] at hm
        cases hm
        exact hw
theorem Lp.took {w W : World} {sb ab tb mb cb cap : Nat} {gs : List Gr} {vA : Option Addr} {vc : Nat} {all : List Mk} {p : Nat} (t : Lp w W sb ab tb mb cb cap gs vA vc all p) (hp : p < all.length) :
    ∃ buf s r v, W.heap[cb]? = some (.chan cap buf false s r false) ∧ 0 < buf.size ∧ buf.getD 0 undef = .agg (cM all[p].1 v) ∧ GOk all[p].1 ∧ WayR (W.setChan cb cap (buf.extract 1 buf.size) false s (r + 1) false) w.heap.size v all[p].2 ∧
      Lp w (W.setChan cb cap (buf.extract 1 buf.size) false s (r + 1) false) sb ab tb mb cb cap gs vA vc all (p + 1) := by
  obtain ⟨buf, s, r, hcb, hwt⟩ := t.cs.c
  have hd : all.drop p = all[p] :: all.drop (p + 1) := List.drop_eq_getElem_cons hp
  rw [hd] at hwt
  obtain ⟨v, hv1, hv2, hv3⟩ := hwt.2 0 all[p] rfl
  have hsz : buf.size = (all.drop (p + 1)).length + 1 := by rw [hwt.1]; rfl
  have hgc := grown_chan W cb cap (buf.extract 1 buf.size) false s (r + 1) false
  have hnc : ∀ c q, Obj.chan cap buf false s r false ≠ .cells c q (0, 0) := by intro c q; simp
  have ov : ∀ v way, WayR W w.heap.size v way → WayR (W.setChan cb cap (buf.extract 1 buf.size) false s (r + 1) false) w.heap.size v way := fun v way h => R_grown h hcb hnc hgc
  have ncb : ∀ (k : Nat) (o : Obj), W.heap[k]? = some o → (∀ c b u s r m, o ≠ .chan c b u s r m) → (W.setChan cb cap (buf.extract 1 buf.size) false s (r + 1) false).heap[k]? = some o := fun k o hb ho => by
    have hne : some k ≠ some cb := fun e => by
      cases e
      rw [hcb] at hb
      exact ho _ _ _ _ _ _ (Option.some.inj hb).symm
    rw [hgc.block k (Array.getElem?_eq_some_iff.1 hb).1 hne]
    exact hb
  obtain ⟨es, clk, hmo⟩ := seen_obj t.cs.m
  obtain ⟨va, ha, HA⟩ := t.cs.aB
  refine ⟨buf, s, r, v, hcb, by omega, ?_, hv2, ov _ _ hv3, ⟨⟨below_by t.cs.below hgc t.cs.ge.2.2.2.2, ncb _ _ t.cs.sB (by simp), ⟨va, ncb _ _ ha (by simp), R_grown HA hcb hnc hgc⟩, ncb _ _ t.cs.tB (by simp), seen_kept t.cs.m hgc (fun e => ?_), ⟨buf.extract 1 buf.size, s, r + 1, ?_, ?_, fun i m hm => ?_⟩, t.cs.ge, t.cs.ne⟩, R_grown t.r hcb hnc hgc, t.len, by omega, t.ways⟩⟩
  · rw [Array.getD_eq_getD_getElem?, hv1]
    rfl
  · cases e
    rw [hcb] at hmo
    cases hmo
  · have hlt : cb < W.heap.size := (Array.getElem?_eq_some_iff.1 hcb).1
    simp only [World.setChan]
    rw [Array.getElem?_setIfInBounds_self_of_lt hlt]
  · rw [Array.size_extract]
    omega
  · obtain ⟨v2, q1, q2, q3⟩ := hwt.2 (i + 1) m (by rw [List.getElem?_cons_succ]; exact hm)
    refine ⟨v2, ?_, q2, ov _ _ q3⟩
    rw [Array.getElem?_extract, if_pos (by have := (Array.getElem?_eq_some_iff.1 q1).1; omega), Nat.add_comm 1 i]
    exact q1
theorem Lp.empty {w W : World} {sb ab tb mb cb cap : Nat} {gs : List Gr} {vA : Option Addr} {vc : Nat} {all : List Mk} {p : Nat} (t : Lp w W sb ab tb mb cb cap gs vA vc all p) (hp : ¬ p < all.length) : ∃ s r, W.heap[cb]? = some (.chan cap #[] false s r false) := by
  obtain ⟨buf, s, r, hcb, hwt⟩ := t.cs.c
  have h : buf.size = 0 := by rw [hwt.1, List.length_drop]; omega
  rw [Array.eq_empty_of_size_eq_zero h] at hcb
  exact ⟨s, r, hcb⟩
theorem Lp.go {w W W2 : World} {sb ab tb mb cb cap : Nat} {gs : List Gr} {vA : Option Addr} {vc : Nat} {all : List Mk} {p : Nat} (t : Lp w W sb ab tb mb cb cap gs vA vc all p) (h : Below W.heap.size W W2) : Lp w W2 sb ab tb mb cb cap gs vA vc all p := ⟨t.cs.go h, Kd.R_below t.r h, t.len, t.pos, t.ways⟩
theorem Lp.apart {w W : World} {sb ab tb mb cb cap : Nat} {gs : List Gr} {vA : Option Addr} {vc : Nat} {all : List Mk} {p : Nat} (t : Lp w W sb ab tb mb cb cap gs vA vc all p) (cm : Array Value) : Apart (W.alloc (.cells cm 83)) ab W.heap.size cm := by
  obtain ⟨va, ha, HA⟩ := t.cs.aB
  refine ⟨blk_new W _, va, blk_below ha (below_alloc (Below.refl _ _) _), fun e => ?_⟩
  have := (Kd.R_bound HA).1 _ e.symm
  omega
theorem Apart.go {W W2 : World} {ab kb : Nat} {cm : Array Value} (h : Apart W ab kb cm) (hb : Below W.heap.size W W2) : Apart W2 ab kb cm := (Same.of_below hb).apart _ _ h
/-- A loop of a lone goroutine, by a measure. -/
theorem lone_ind {P : Program} {R : Goroutine → World → Prop} {b : Frame} {cs : List Frame} {k : List Item} (F : Nat → Act → World → Prop) (zero : ∀ a w, ¬ F 0 a w) (step : ∀ d, (∀ a w, F d a w → LoneTo P R (G (b.at a k) cs) w) → ∀ a w, F (d + 1) a w → LoneTo P R (G (b.at a k) cs) w) :
    ∀ (d : Nat) (a : Act) (w : World), F d a w → LoneTo P R (G (b.at a k) cs) w
  | 0, a, w, h => (zero a w h).elim
  | d + 1, a, w, h => step d (lone_ind F zero step d) a w h
theorem zero83_run (W : World) : (zeroValue 83).run Try.prog W = .ok z83 W := by
  have h : (Try.prog.info? 83).map (fun i => (i.zero, i.size)) = some (some z83, 39) := by kernel_rfl
  exact (zero_of_info h).1 W
end Go.Proofs.Ytiepinfcndefhaa.S
