/- Appending a call, written in a block anywhere, to a queue of calls. No condition. -/
import Derived.Test.YtiepinfcndefhaaVk
namespace Go.Proofs.Ytiepinfcndefhaa.S
open Go.RowKit Go.Proofs.YtiepinfcndefhaaW.PrintWords Go.Proofs.YtiepinfcndefhaaW.PrintLast Go.Proofs.YtiepinfcndefhaaW.PrintMore
set_option linter.unusedVariables false
set_option linter.unusedSimpArgs false

theorem q_any {α : Type} {P : Program} (d : Kd α) {W : World} (base : Nat) (t ty e : TypeId) (z : Value) (bytes : Nat)
    (ht : P.underlying t = some (.slice e)) (hinfo : (P.info? e).map (fun i => (i.zero, i.size, i.bytes)) = some (some z, d.sz, bytes)) (hz : z.cells.size = d.sz) (hs0 : 0 < d.sz) (hb0 : 0 < bytes)
    (v : Value) (xs : List α) (p : α) (cs : List Value) (ok okp : Nat → Prop) (hp : d.M W base okp p cs) (hokp : ∀ k, okp k → ok k ∧ some k ≠ v.ownBlock) (hfresh : ∀ k, W.heap.size ≤ k → ok k)
    (HO : d.Q e W base ok v xs) (hbase : base ≤ W.heap.size) (hl : (xs.length + 1) * bytes ≤ 140737488355328) (b : Nat) (hb : W.heap[b]? = some (.cells cs.toArray e (0, 0))) :
    ∃ v1 w1, (Builtin.append_ #[t, t] ty #[v, .slice (some ⟨b, 0, none⟩) 1 1]).run P W = .ok v1 w1 ∧ d.Q e w1 base ok v1 (xs ++ [p]) ∧ W.grownBy w1 v.ownBlock ∧ (v1.ownBlock = v.ownBlock ∨ ∃ b, v1.ownBlock = some b ∧ W.heap.size ≤ b) := by
  obtain ⟨h0, inner, hown, hr⟩ := HO
  obtain ⟨i0, hi, hzz⟩ := Option.map_eq_some_iff.1 hinfo
  simp only [Prod.mk.injEq] at hzz
  obtain ⟨hz0, hz1, hz2⟩ := hzz
  have hlen : xs.length + 1 ≤ 140737488355328 := Nat.le_trans (Nat.le_mul_of_pos_right _ hb0) hl
  have hcl := d.K_len (d.K_of_M hp)
  obtain ⟨v1, w1, hrun, hq1, hg1, hat⟩ := q_append (P := P) W base t ty e i0 z d.sz bytes ht hi hz0 hz1 hz2 hz hs0 v xs.length inner hown ⟨b, 0, none⟩ 1 1 cs (by rw [hcl, Nat.one_mul])
    (by simpa using World.news_of_block (cs := cs.toArray) (t := e) (fr := (0, 0)) hb) (d.K_one (d.K_of_M hp)) (by omega) (by simp only [maxLen]; omega) hl hbase
  exact ⟨v1, w1, hrun, Kd.Q_appended h0 hr hp hokp hfresh hq1 hg1 hat, hg1, hat⟩
theorem append_run22 {a : Act} {o : Oper} {s x : Operand} {u y v : Value} {W W2 : World} (ho : o.op = .call { callee := .builtin .append, args := #[s, x], argTypes := #[22, 22] }) (ht : o.type = 22) (hs : a.eval s = u) (hx : a.eval x = y)
    (h : (Builtin.append_ #[22, 22] 22 #[u, y]).run Try.prog W = .ok v W2) : (execOp a.eval o).run Try.prog W = .ok (.value v) W2 := by
  simp [execOp, ho, ht, resolve, invoke, builtin, Sem.run_bind, Sem.run_pure, Result.andThen, hs, hx, h]
/-- A call in a block of its own, for an append. -/
def lit (c : Cl) (C : Option Addr) (cpc : Nat) : List Value := [.string c.src, .string c.dst, .slice C c.arcs.length cpc]
variable {w W : World} {v4 v5 v6 : Value} {S T D : List Cl}
/-- To what is to do. -/
theorem Three.add_todo (t : Three w W v4 v5 v6 S T D) (hT : T.length ≤ 10000) (c : Cl) (C : Option Addr) (cpc : Nat) (hc : kAc.R 24 W w.heap.size (fun _ => True) (.slice C c.arcs.length cpc) c.arcs) (b : Nat) (hb : W.heap[b]? = some (.cells (lit c C cpc).toArray 34 (0, 0))) :
    ∃ v' W2, (Builtin.append_ #[22, 22] 22 #[v5, .slice (some ⟨b, 0, none⟩) 1 1]).run Try.prog W = .ok v' W2 ∧ Three w W2 v4 v' v6 S (T ++ [c]) D ∧ W.grownBy W2 v5.ownBlock ∧ (v'.ownBlock = v5.ownBlock ∨ ∃ b, v'.ownBlock = some b ∧ W.heap.size ≤ b) := by
  have hne : ∀ u : Value, (∀ k, u.ownBlock = some k → k < W.heap.size) → ∀ k, W.heap.size ≤ k → some k ≠ u.ownBlock := fun u hu k hk e => by
    have := hu k e.symm
    omega
  obtain ⟨v', W2, h1, h2, h3, h4⟩ := q_any (P := Try.prog) kCl w.heap.size 22 22 34 (.agg #[.string .empty, .string .empty, .slice none 0 0]) 56 Try.underlying22 info34 rfl (by decide) (by omega) v5 T c (lit c C cpc) (Off v4 v6) (Arcs W) (arcs_M hc) (fun k hk => ⟨⟨(t.off hk).1, (t.off hk).2.2⟩, (t.off hk).2.1⟩) (fun k hk => ⟨hne v4 (Kd.N_lt t.all) k hk, hne v6 (Kd.Q_lt t.sing) k hk⟩) t.todo t.below.size (by omega) b hb
  exact ⟨v', W2, h1, t.todo_ h2 h3 h4, h3, h4⟩
/-- To the single ones. -/
theorem Three.add_sing (t : Three w W v4 v5 v6 S T D) (hD : D.length ≤ 10000) (c : Cl) (C : Option Addr) (cpc : Nat) (hc : kAc.R 24 W w.heap.size (fun _ => True) (.slice C c.arcs.length cpc) c.arcs) (b : Nat) (hb : W.heap[b]? = some (.cells (lit c C cpc).toArray 34 (0, 0))) :
    ∃ v' W2, (Builtin.append_ #[22, 22] 22 #[v6, .slice (some ⟨b, 0, none⟩) 1 1]).run Try.prog W = .ok v' W2 ∧ Three w W2 v4 v5 v' S T (D ++ [c]) ∧ W.grownBy W2 v6.ownBlock ∧ (v'.ownBlock = v6.ownBlock ∨ ∃ b, v'.ownBlock = some b ∧ W.heap.size ≤ b) := by
  have hne : ∀ u : Value, (∀ k, u.ownBlock = some k → k < W.heap.size) → ∀ k, W.heap.size ≤ k → some k ≠ u.ownBlock := fun u hu k hk e => by
    have := hu k e.symm
    omega
  obtain ⟨v', W2, h1, h2, h3, h4⟩ := q_any (P := Try.prog) kCl w.heap.size 22 22 34 (.agg #[.string .empty, .string .empty, .slice none 0 0]) 56 Try.underlying22 info34 rfl (by decide) (by omega) v6 D c (lit c C cpc) (Off v4 v5) (Arcs W) (arcs_M hc) (fun k hk => ⟨⟨(t.off hk).1, (t.off hk).2.1⟩, (t.off hk).2.2⟩) (fun k hk => ⟨hne v4 (Kd.N_lt t.all) k hk, hne v5 (Kd.Q_lt t.todo) k hk⟩) t.sing t.below.size (by omega) b hb
  exact ⟨v', W2, h1, t.sing_ h2 h3 h4, h3, h4⟩
end Go.Proofs.Ytiepinfcndefhaa.S
