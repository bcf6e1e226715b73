/- The three rows of the reference's closure. No condition. -/
import Derived.Test.YtiepinfcndefhaaVi
import Derived.Test.YtiepinfcndefhaaVj
import Derived.Test.YtiepinfcndefhaaVQ
namespace Go.Proofs.Ytiepinfcndefhaa.S
open Go.RowKit Go.Proofs.YtiepinfcndefhaaW.PrintWords Go.Proofs.YtiepinfcndefhaaW.PrintLast Go.Proofs.YtiepinfcndefhaaW.PrintMore
set_option linter.unusedVariables false
set_option linter.unusedSimpArgs false

/-- Not in the block of one of two rows. -/
def Off (u v : Value) (k : Nat) : Prop := some k ≠ u.ownBlock ∧ some k ≠ v.ownBlock
/-- All calls in order, those to do, the single ones: each row apart from the others. -/
structure Three (w W : World) (v4 v5 v6 : Value) (S T D : List Cl) : Prop where
  below : Below w.heap.size w W
  all : Kd.N kCl 34 W w.heap.size (Off v5 v6) v4 S
  todo : Kd.Q kCl 34 W w.heap.size (Off v4 v6) v5 T
  sing : Kd.Q kCl 34 W w.heap.size (Off v4 v5) v6 D
theorem Three.nil (w : World) : Three w w (.slice none 0 0) (.slice none 0 0) (.slice none 0 0) [] [] [] := ⟨Below.refl _ _, Kd.N_nil _ _ _ _ _, Kd.Q_nil _ _ _ _ _, Kd.Q_nil _ _ _ _ _⟩
theorem Three.go {w W W2 : World} {v4 v5 v6 : Value} {S T D : List Cl} (t : Three w W v4 v5 v6 S T D) (h : Below W.heap.size W W2) : Three w W2 v4 v5 v6 S T D := ⟨below_step t.below h, Kd.N_below t.all h, Kd.Q_below t.todo h, Kd.Q_below t.sing h⟩
theorem below_row {w W W2 : World} {v : Value} (h : Below w.heap.size w W) (hg : W.grownBy W2 v.ownBlock) (hb : ∀ k, v.ownBlock = some k → w.heap.size ≤ k) : Below w.heap.size w W2 := ⟨hg.os.trans h.os, hg.tape.trans h.tape, hg.output.trans h.output, Nat.le_trans h.size hg.size, fun k hk => (hg.block k (Nat.lt_of_lt_of_le hk h.size) (fun e => by have := hb k e.symm; omega)).trans (h.block k hk)⟩
theorem Three.put {w W W2 : World} {v4 v5 v6 v' : Value} {S S' T D : List Cl} (t : Three w W v4 v5 v6 S T D) (h : Kd.N kCl 34 W2 w.heap.size (Off v5 v6) v' S') (hg : W.grownBy W2 v4.ownBlock) (hat : v'.ownBlock = v4.ownBlock ∨ ∃ b, v'.ownBlock = some b ∧ W.heap.size ≤ b) : Three w W2 v' v5 v6 S' T D :=
  ⟨below_row t.below hg (Kd.N_base t.all), h, Kd.Q_mono (Kd.Q_after (Kd.Q_mono t.todo (fun k hk => show some k ≠ v6.ownBlock ∧ some k ≠ v4.ownBlock from ⟨hk.2, hk.1⟩)) hg hat) (fun k hk => ⟨hk.2, hk.1⟩),
    Kd.Q_mono (Kd.Q_after (Kd.Q_mono t.sing (fun k hk => show some k ≠ v5.ownBlock ∧ some k ≠ v4.ownBlock from ⟨hk.2, hk.1⟩)) hg hat) (fun k hk => ⟨hk.2, hk.1⟩)⟩
theorem Three.todo_ {w W W2 : World} {v4 v5 v6 v' : Value} {S T T' D : List Cl} (t : Three w W v4 v5 v6 S T D) (h : Kd.Q kCl 34 W2 w.heap.size (Off v4 v6) v' T') (hg : W.grownBy W2 v5.ownBlock) (hat : v'.ownBlock = v5.ownBlock ∨ ∃ b, v'.ownBlock = some b ∧ W.heap.size ≤ b) : Three w W2 v4 v' v6 S T' D :=
  ⟨below_row t.below hg (Kd.Q_base t.todo), Kd.N_mono (Kd.N_after (Kd.N_mono t.all (fun k hk => show some k ≠ v6.ownBlock ∧ some k ≠ v5.ownBlock from ⟨hk.2, hk.1⟩)) hg hat) (fun k hk => ⟨hk.2, hk.1⟩), h,
    Kd.Q_after t.sing hg hat⟩
theorem Three.sing_ {w W W2 : World} {v4 v5 v6 v' : Value} {S T D D' : List Cl} (t : Three w W v4 v5 v6 S T D) (h : Kd.Q kCl 34 W2 w.heap.size (Off v4 v5) v' D') (hg : W.grownBy W2 v6.ownBlock) (hat : v'.ownBlock = v6.ownBlock ∨ ∃ b, v'.ownBlock = some b ∧ W.heap.size ≤ b) : Three w W2 v4 v5 v' S T D' :=
  ⟨below_row t.below hg (Kd.Q_base t.sing), Kd.N_after t.all hg hat, Kd.Q_after t.todo hg hat, h⟩
/-- Blocks of arcs. -/
def Arcs (W : World) (k : Nat) : Prop := ∃ cells, W.heap[k]? = some (.cells cells 24 (0, 0))
theorem arcs_M {W : World} {base : Nat} {c : Cl} {v : Value} (h : kAc.R 24 W base (fun _ => True) v c.arcs) : kCl.M W base (Arcs W) c [.string c.src, .string c.dst, v] := by
  refine call_M (Kd.R_mono (Kd.R_bound h) ?_)
  rintro k ⟨_, _, _, q, hq, cells, hc⟩
  have : q = 24 := by
    rcases List.mem_cons.1 hq with e | e
    · exact e
    · cases e
  subst this
  exact ⟨cells, hc⟩
theorem arcs_ne {W : World} {v : Value} {k : Nat} (hk : Arcs W k) (ht : ∀ j, v.ownBlock = some j → ∃ cells, W.heap[j]? = some (.cells cells 34 (0, 0))) : some k ≠ v.ownBlock := fun e => by
  obtain ⟨c1, h1⟩ := hk
  obtain ⟨c2, h2⟩ := ht k e.symm
  rw [h1] at h2
  simp at h2
theorem Three.off {w W : World} {v4 v5 v6 : Value} {S T D : List Cl} (t : Three w W v4 v5 v6 S T D) {k : Nat} (hk : Arcs W k) : some k ≠ v4.ownBlock ∧ some k ≠ v5.ownBlock ∧ some k ≠ v6.ownBlock := ⟨arcs_ne hk (Kd.N_typed t.all), arcs_ne hk (Kd.Q_typed t.todo), arcs_ne hk (Kd.Q_typed t.sing)⟩
/-- A call is put into the row in order. -/
theorem Three.put_calls {w W : World} {v4 v5 v6 : Value} {S T D : List Cl} (t : Three w W v4 v5 v6 S T D) (hS : S.length ≤ 10000) (c : Cl) (C : Option Addr) (cpc : Nat) (hc : kAc.R 24 W w.heap.size (fun _ => True) (.slice C c.arcs.length cpc) c.arcs) :
    Calls Try.prog 56 #[v4, .agg #[.string c.src, .string c.dst, .slice C c.arcs.length cpc]] W fun e W2 => ∃ (k : Nat) (v' : Value), k ≤ S.length ∧ Low S c k ∧ High S c k ∧ e = .returned (.tuple #[v', .bool (putF S c k).2]) ∧ Three w W2 v' v5 v6 (putF S c k).1 T D ∧ (∀ j, j < W.heap.size → some j ≠ v4.ownBlock → W2.heap[j]? = W.heap[j]?) ∧ W.heap.size ≤ W2.heap.size ∧ (v'.ownBlock = v4.ownBlock ∨ ∃ b, v'.ownBlock = some b ∧ W.heap.size ≤ b) := by
  obtain ⟨A, cp, rfl⟩ := Kd.N_slice t.all
  have hne : ∀ u : Value, (∀ k, u.ownBlock = some k → k < W.heap.size) → ∀ k, W.heap.size ≤ k → some k ≠ u.ownBlock := fun u hu k hk e => by
    have := hu k e.symm
    omega
  refine (Go.Proofs.Ytiepinfcndefhaa.S.put_calls A C cp cpc S c w.heap.size (Off v5 v6) (Arcs W) W t.all hS (Kd.R_reads' hc).2.2 (Kd.FK_of_M (arcs_M hc)) (fun k hk => ⟨⟨(t.off hk).2.1, (t.off hk).2.2⟩, (t.off hk).1⟩) (fun k hk => ⟨hne v5 (Kd.Q_lt t.todo) k hk, hne v6 (Kd.Q_lt t.sing) k hk⟩) t.below.size).mono ?_
  rintro e W2 ⟨k, v', h1, h2, h3, h4, h5, h6, h7⟩
  exact ⟨k, v', h1, h2, h3, h4, t.put h5 h6 h7, h6.block, h6.size, h7⟩
end Go.Proofs.Ytiepinfcndefhaa.S
