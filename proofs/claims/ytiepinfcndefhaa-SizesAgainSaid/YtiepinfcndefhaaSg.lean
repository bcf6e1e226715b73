/- A piece of code by the ordinary walk, then on by the machine's steps. No condition. -/
import Derived.Test.YtiepinfcndefhaaSf
import Derived.Conc.LoneCalls
import Derived.Conc.LoneSelect
namespace Go.Proofs.Ytiepinfcndefhaa.S
open Go.RowKit Go.Conc Go.Proofs.YtiepinfcndefhaaW.PrintWords Go.Proofs.YtiepinfcndefhaaW.PrintLast Go.Proofs.YtiepinfcndefhaaW.PrintMore
set_option linter.unusedVariables false
set_option linter.unusedSimpArgs false

section
variable {P : Program} {R : Goroutine → World → Prop} {b : Frame} {cs : List Frame} {a : Act} {w : World} {k : List Item}
theorem LoneTo.of_steps {fr fr2 : Frame} {cs2 : List Frame} {w2 : World} (h : Steps P (lone fr cs w) (lone fr2 cs2 w2)) (h2 : LoneTo P R (G fr2 cs2) w2) : LoneTo P R (G fr cs) w :=
  let ⟨g, w', hs, hq⟩ := h2
  ⟨g, w', Steps.trans h hs, hq⟩
/-- What a piece of code may end with, if the walk goes on behind it. -/
def Onward (P : Program) (R : Goroutine → World → Prop) (b : Frame) (k : List Item) (cs : List Frame) : Exit → Act → World → Prop
  | .normal, a, w => LoneTo P R (G (b.at a k) cs) w
  | .exit id, a, w => ∃ k', exitTo id k = some k' ∧ LoneTo P R (G (b.at a k') cs) w
  | .ret, a, w => ∀ todo, LoneTo P R (G { b.at a todo with mode := .returning } cs) w
  | _, _, _ => False
theorem loneTo_wp {c : Code} (h : c.wp P (Onward P R b k cs) a w) : LoneTo P R (G (b.at a (.code c :: k)) cs) w := by
  obtain ⟨e, a', w', hq, harr⟩ := h b k cs
  cases e with
  | normal => exact LoneTo.of_steps harr hq
  | exit id =>
    obtain ⟨k', hk, hl⟩ := hq
    exact LoneTo.of_steps (harr k' hk) hl
  | ret =>
    obtain ⟨todo, hs⟩ := harr
    exact LoneTo.of_steps hs (hq todo)
  | goto l => exact hq.elim
  | panic ch => exact hq.elim
  | outgrown => exact hq.elim
theorem loneTo_seq {x y : Code} (h : LoneTo P R (G (b.at a (.code x :: .code y :: k)) cs) w) : LoneTo P R (G (b.at a (.code (x.seq y) :: k)) cs) w := LoneTo.of_steps (.one step_seq) h
theorem loneTo_block {id : Nat} {c : Code} (h : LoneTo P R (G (b.at a (.code c :: .inBlock id :: k)) cs) w) : LoneTo P R (G (b.at a (.code (.block id c) :: k)) cs) w := LoneTo.of_steps (.one step_block) h
theorem loneTo_inBlock {id : Nat} (h : LoneTo P R (G (b.at a k) cs) w) : LoneTo P R (G (b.at a (.inBlock id :: k)) cs) w := LoneTo.of_steps (.one step_inBlock) h
theorem loneTo_loop {c : Code} (h : LoneTo P R (G (b.at a (.code c :: .inLoop c :: k)) cs) w) : LoneTo P R (G (b.at a (.code (.loop c) :: k)) cs) w := LoneTo.of_steps (.one step_loop) h
theorem loneTo_inLoop {c : Code} (h : LoneTo P R (G (b.at a (.code c :: .inLoop c :: k)) cs) w) : LoneTo P R (G (b.at a (.inLoop c :: k)) cs) w := LoneTo.of_steps (.one step_inLoop) h
theorem loneTo_cond {c : Operand} {x y : Code} {t : Bool} (hc : a.eval c = .bool t) (h : LoneTo P R (G (b.at a (.code (if t then x else y) :: k)) cs) w) : LoneTo P R (G (b.at a (.code (.cond c x y) :: k)) cs) w := LoneTo.of_steps (.one (step_cond hc)) h
theorem loneTo_region {id : Nat} {ops : Array Oper} (h : LoneTo P R (G (b.at a (.inRegion ops (List.range ops.size) :: k)) cs) w) : LoneTo P R (G (b.at a (.code (.region id ops false) :: k)) cs) w := LoneTo.of_steps (.one step_region) h
theorem loneTo_region_end {ops : Array Oper} (h : LoneTo P R (G (b.at a k) cs) w) : LoneTo P R (G (b.at a (.inRegion ops [] :: k)) cs) w := LoneTo.of_steps (.one step_region_end) h
theorem loneTo_ret (h : LoneTo P R (G { b.at a (.code .ret :: k) with mode := .returning } cs) w) : LoneTo P R (G (b.at a (.code .ret :: k)) cs) w := LoneTo.of_steps (.one step_ret) h
variable {ops : Array Oper} {i : Nat} {rest : List Nat} {o : Oper}
theorem wanted_of (hg : o.guard = none) : Region.wanted o (yielded ops a.tmps) = true := by simp [Region.wanted, hg]
theorem loneTo_value (ho : ops[i]? = some o) (hg : o.guard = none) (hk : b.kind ≠ .early) {v : Value} {w' : World} (hr : (execOp a.eval o).run P w = .ok (.value v) w') (h : LoneTo P R (G (b.at (a.put o.dst v) (.inRegion ops rest :: k)) cs) w') :
    LoneTo P R (G (b.at a (.inRegion ops (i :: rest) :: k)) cs) w := by
  refine LoneTo.goes (n := 1) ?_
  s_in
  refine goes_oper_k ho (wanted_of hg) hk (fun K hK => ?_)
  rw [hr]
  exact hK _ _ ⟨trivial, Goes.stop (fun _ h₁ => by subst h₁; exact h)⟩
theorem loneTo_ops {l : List Nat} (h : wpOps P ops (Onward P R b k cs) l a w) : LoneTo P R (G (b.at a (.inRegion ops l :: k)) cs) w := by
  obtain ⟨e, a', w', hq, harr⟩ := wp_ops l a w h b k cs
  cases e with
  | normal => exact LoneTo.of_steps harr hq
  | exit id =>
    obtain ⟨k', hk, hl⟩ := hq
    exact LoneTo.of_steps (harr k' hk) hl
  | ret =>
    obtain ⟨todo, hs⟩ := harr
    exact LoneTo.of_steps hs (hq todo)
  | goto l => exact hq.elim
  | panic ch => exact hq.elim
  | outgrown => exact hq.elim
/-- A send with room. -/
theorem loneTo_send (ho : ops[i]? = some o) (hg : o.guard = none) {x y : Operand} (hop : o.op = .send x y) (hk : b.kind ≠ .early) {c cap s r : Nat} {buf : Array Value} {tm : Bool} {v : Value} (hx : a.eval x = .chan (some c)) (hv : a.eval y = v)
    (hc : w.heap[c]? = some (.chan cap buf false s r tm)) (hroom : buf.size < cap) (h : LoneTo P R (G (b.at (a.put o.dst undef) (.inRegion ops rest :: k)) cs) (w.setChan c cap (buf.push v) false (s + 1) r tm)) :
    LoneTo P R (G (b.at a (.inRegion ops (i :: rest) :: k)) cs) w := by
  have hr : (execOp a.eval o).run P w = .ok (.comm #[scase c v (.tuple #[])] true .send) w := by simp [execOp, hop, hx, hv, scase]
  refine LoneTo.step (step_lone_send_room (z' := .tuple #[]) (stepG_comm ho (wanted_of hg) hk hr) hc hroom) ?_
  rw [Frame.finish_at, ho]
  exact h
/-- A select of one receive with a default: there is something. -/
theorem loneTo_take (ho : ops[i]? = some o) (hg : o.guard = none) {x : Operand} {e : TypeId} (hop : o.op = .select #[{ chan := x, send := none, elem := e }] false) (hk : b.kind ≠ .early) {c cap s r : Nat} {buf : Array Value} {tm : Bool} {z : Value} (hx : a.eval x = .chan (some c))
    (hz : (zeroValue e).run P w = .ok z w) (hc : w.heap[c]? = some (.chan cap buf false s r tm)) (hsome : 0 < buf.size) (h : LoneTo P R (G (b.at (a.put o.dst (.tuple #[goInt 0, .bool true, buf.getD 0 undef])) (.inRegion ops rest :: k)) cs) (w.setChan c cap (buf.extract 1 buf.size) false s (r + 1) tm)) :
    LoneTo P R (G (b.at a (.inRegion ops (i :: rest) :: k)) cs) w := by
  have hr : (execOp a.eval o).run P w = .ok (.comm #[rcase c z] false .select) w := by
    have hx' := hx
    simp [go_sem] at hx'
    simp [execOp, hop, hz, rcase, go_sem, Result.andThen]
    exact hx'
  refine LoneTo.step (step_lone_select_recv_buf (stepG_comm ho (wanted_of hg) hk hr) hc hsome) ?_
  rw [Frame.finish_at, ho]
  exact h
/-- .. there is nothing. -/
theorem loneTo_default (ho : ops[i]? = some o) (hg : o.guard = none) {x : Operand} {e : TypeId} (hop : o.op = .select #[{ chan := x, send := none, elem := e }] false) (hk : b.kind ≠ .early) {c cap s r : Nat} {tm : Bool} {z : Value} (hx : a.eval x = .chan (some c))
    (hz : (zeroValue e).run P w = .ok z w) (hc : w.heap[c]? = some (.chan cap #[] false s r tm)) (h : LoneTo P R (G (b.at (a.put o.dst (.tuple #[goInt (-1), .bool false, z])) (.inRegion ops rest :: k)) cs) w) :
    LoneTo P R (G (b.at a (.inRegion ops (i :: rest) :: k)) cs) w := by
  have hr : (execOp a.eval o).run P w = .ok (.comm #[rcase c z] false .select) w := by
    have hx' := hx
    simp [go_sem] at hx'
    simp [execOp, hop, hz, rcase, go_sem, Result.andThen]
    exact hx'
  refine LoneTo.step (step_lone_select_default (stepG_comm ho (wanted_of hg) hk hr) hc) ?_
  rw [Frame.finish_at, ho]
  exact h
end
end Go.Proofs.Ytiepinfcndefhaa.S
