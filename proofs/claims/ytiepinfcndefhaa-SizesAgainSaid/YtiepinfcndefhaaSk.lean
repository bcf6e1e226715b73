/- What stands in memory while the closure is made. No condition. -/
import Derived.Test.YtiepinfcndefhaaSg
import Derived.Test.YtiepinfcndefhaaSi
import Derived.Test.YtiepinfcndefhaaSj
namespace Go.Proofs.Ytiepinfcndefhaa.S
open Go.RowKit Go.Conc Go.Proofs.YtiepinfcndefhaaW.PrintWords Go.Proofs.YtiepinfcndefhaaW.PrintLast Go.Proofs.YtiepinfcndefhaaW.PrintMore
set_option linter.unusedVariables false
set_option linter.unusedSimpArgs false

section
variable {α : Type} {d : Kd α} {e base : Nat} {ok : Nat → Prop} {w w2 : World} {v : Value} {xs : List α}
/-- The rows are not a block that is no row. -/
theorem R_notcells (h : d.R e w base ok v xs) {g : Nat} {o : Obj} (hb : w.heap[g]? = some o) (ho : ∀ c t, o ≠ .cells c t (0, 0)) : d.R e w base (fun k => ok k ∧ k ≠ g) v xs :=
  Kd.R_mono (Kd.R_bound h) (fun k hk => ⟨hk.1, by
    obtain ⟨_, _, _, q, hq, cells, hc⟩ := hk
    rintro rfl
    rw [hc] at hb
    exact ho _ _ (Option.some.inj hb).symm⟩)
theorem R_grown (h : d.R e w base ok v xs) {g : Nat} {o : Obj} (hb : w.heap[g]? = some o) (ho : ∀ c t, o ≠ .cells c t (0, 0)) (hg : w.grownBy w2 (some g)) : d.R e w2 base ok v xs :=
  Kd.R_mono (Kd.R_step (R_notcells h hb ho) (fun k hk hlt => hg.block k hlt (fun e => hk.2 (Option.some.inj e)))) (fun _ hk => hk.1)
/-- .. nor a row of another type. -/
theorem R_cell (h : d.R e w base ok v xs) {g t : Nat} {c : Array Value} (hb : w.heap[g]? = some (.cells c t (0, 0))) (ht : ∀ q, q ∈ e :: d.E → q ≠ t) (j : Nat) (u : Value) : d.R e (w.setCell ⟨g, j, none⟩ u) base ok v xs :=
  Kd.R_mono (Kd.R_far (Kd.R_types h hb ht) (p := ⟨g, j, none⟩) (fun k hk => hk.2) u) (fun _ hk => hk.1)
end
theorem grown_chan (w : World) (c cap : Nat) (buf : Array Value) (cl : Bool) (s r : Nat) (tm : Bool) : w.grownBy (w.setChan c cap buf cl s r tm) (some c) :=
  ⟨rfl, rfl, rfl, by simp [World.setChan], fun k hk hne => by
    simp only [World.setChan]
    rw [Array.getElem?_setIfInBounds_ne (fun e => hne (by rw [e]))]⟩
theorem grown_cell (w : World) (g j : Nat) (u : Value) : w.grownBy (w.setCell ⟨g, j, none⟩ u) (some g) :=
  ⟨rfl, rfl, rfl, by simp [World.setCell], fun k hk hne => Below.heap_setCell w ⟨g, j, none⟩ u k (fun e => hne (by rw [e]))⟩
/-- A way, owned. -/
abbrev WayR (W : World) (base : Nat) (v : Value) (way : List Int) : Prop := (Kd.int .i64).R 3 W base (fun _ => True) v way
/-- What waits in the channel: the closure's tail. -/
def Waits (W : World) (base : Nat) (buf : Array Value) (l : List Mk) : Prop := buf.size = l.length ∧ ∀ (i : Nat) (m : Mk), l[i]? = some m → ∃ v, buf[i]? = some (.agg (cM m.1 v)) ∧ GOk m.1 ∧ WayR W base v m.2
structure Cs (w W : World) (sb ab tb mb cb cap : Nat) (all : List Mk) (p : Nat) : Prop where
  below : Below w.heap.size w W
  sB : W.heap[sb]? = some (.cells #[.map (some mb)] 123 (0, 0))
  aB : ∃ va, W.heap[ab]? = some (.cells #[va] 75 (0, 0)) ∧ kMk.R 83 W w.heap.size (fun _ => True) va all
  tB : W.heap[tb]? = some (.cells #[.chan (some cb)] 124 (0, 0))
  m : SeenM W mb all
  c : ∃ buf s r, W.heap[cb]? = some (.chan cap buf false s r false) ∧ Waits W w.heap.size buf (all.drop p)
  ge : w.heap.size ≤ sb ∧ w.heap.size ≤ ab ∧ w.heap.size ≤ tb ∧ w.heap.size ≤ mb ∧ w.heap.size ≤ cb
  ne : sb ≠ ab ∧ ab ≠ tb ∧ sb ≠ tb
theorem seen_obj {W : World} {mb : Nat} {all : List Mk} (h : SeenM W mb all) : ∃ es clock, W.heap[mb]? = some (.map es clock) := by
  obtain ⟨n, D, ⟨es, clock, hb, _⟩, _⟩ := h
  exact ⟨es, clock, hb⟩
theorem Waits.go {W W2 : World} {base : Nat} {buf : Array Value} {l : List Mk} (h : Waits W base buf l) (hr : ∀ v way, WayR W base v way → WayR W2 base v way) : Waits W2 base buf l :=
  ⟨h.1, fun i m hm => let ⟨v, h1, h2, h3⟩ := h.2 i m hm; ⟨v, h1, h2, hr _ _ h3⟩⟩
theorem Waits.push {W : World} {base : Nat} {buf : Array Value} {l : List Mk} (h : Waits W base buf l) {g : Gr} (hg : GOk g) {v : Value} {way : List Int} (hv : WayR W base v way) : Waits W base (buf.push (.agg (cM g v))) (l ++ [(g, way)]) := by
  refine ⟨by simp [h.1], fun i m hm => ?_⟩
  by_cases hi : i < l.length
  · rw [List.getElem?_append_left hi] at hm
    obtain ⟨v2, h1, h2, h3⟩ := h.2 i m hm
    exact ⟨v2, by rw [Array.getElem?_push, if_neg (by have := h.1; omega)]; exact h1, h2, h3⟩
  · rw [List.getElem?_append_right (by omega)] at hm
    have h0 : i - l.length = 0 := by
      have := (List.getElem?_eq_some_iff.1 hm).1
      simp at this
      omega
    rw [h0] at hm
    cases hm
    exact ⟨v, by rw [Array.getElem?_push, if_pos (by have := h.1; omega)], hg, hv⟩
/-- Blocks that are laid behind, and what is done to them. -/
theorem Cs.go {w W W2 : World} {sb ab tb mb cb cap : Nat} {all : List Mk} {p : Nat} (t : Cs w W sb ab tb mb cb cap all p) (h : Below W.heap.size W W2) : Cs w W2 sb ab tb mb cb cap all p := by
  obtain ⟨va, a1, a2⟩ := t.aB
  obtain ⟨buf, s, r, c1, c2⟩ := t.c
  exact ⟨below_step t.below h, blk_below t.sB h, ⟨va, blk_below a1 h, Kd.R_below a2 h⟩, blk_below t.tB h, seen_kept t.m (grown_of_below h none) (by simp), ⟨buf, s, r, blk_below c1 h, c2.go fun v way hv => Kd.R_below hv h⟩, t.ge, t.ne⟩
end Go.Proofs.Ytiepinfcndefhaa.S
