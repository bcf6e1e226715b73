/- What stays when a row of calls grows. No condition. -/
import Derived.Test.YtiepinfcndefhaaVm
namespace Go.Proofs.Ytiepinfcndefhaa.S
open Go.RowKit Go.Proofs.YtiepinfcndefhaaW.PrintWords Go.Proofs.YtiepinfcndefhaaW.PrintLast Go.Proofs.YtiepinfcndefhaaW.PrintMore
set_option linter.unusedVariables false
set_option linter.unusedSimpArgs false

/-- Arcs stay when a row of calls grows. -/
theorem arcs_grown {W W2 : World} {base : Nat} {u v : Value} {l : List Ac} (h : kAc.R 24 W base (fun _ => True) u l) (hg : W.grownBy W2 v.ownBlock) (ht : ∀ j, v.ownBlock = some j → ∃ cells, W.heap[j]? = some (.cells cells 34 (0, 0))) : kAc.R 24 W2 base (fun _ => True) u l := by
  refine Kd.R_mono (Kd.R_step (Kd.R_bound h) ?_) (fun _ _ => trivial)
  rintro k ⟨_, _, hlt, q, hq, cells, hc⟩ _
  have : q = 24 := by
    rcases List.mem_cons.1 hq with e | e
    · exact e
    · cases e
  subst this
  exact hg.block k hlt (arcs_ne ⟨cells, hc⟩ ht)
/-- A block that is older than a row's own, or lies behind it, stays. -/
theorem blk_off {W W2 : World} {v : Value} {b : Nat} {o : Obj} (hb : W.heap[b]? = some o) (hg : W.grownBy W2 v.ownBlock) (hne : some b ≠ v.ownBlock) : W2.heap[b]? = some o := blk_grown hb hg hne
theorem new_off {W : World} {v : Value} (hv : ∀ k, v.ownBlock = some k → k < W.heap.size) : some W.heap.size ≠ v.ownBlock := fun e => Nat.lt_irrefl _ (hv _ e.symm)
/-- Off the block of a row that has grown or moved: still. -/
theorem off_after {W : World} {v v' : Value} {b : Nat} (hb : b < W.heap.size) (hne : some b ≠ v.ownBlock) (hat : v'.ownBlock = v.ownBlock ∨ ∃ k, v'.ownBlock = some k ∧ W.heap.size ≤ k) : some b ≠ v'.ownBlock := by
  rcases hat with e | ⟨k, e, hk⟩
  · rw [e]
    exact hne
  · rw [e]
    intro h
    have := Option.some.inj h
    omega
theorem dd_snoc : ∀ (L acc : List Gr) (h : Gr), dd acc (L ++ [h]) = if h ∈ acc ++ dd acc L then dd acc L else dd acc L ++ [h]
  | [], acc, h => by
    simp only [List.nil_append, dd, List.append_nil]
  | x :: t, acc, h => by
    by_cases hx : x ∈ acc
    · have e1 : ∀ L, dd acc (x :: L) = dd acc L := fun L => by simp only [dd]; exact if_pos hx
      simp only [List.cons_append, e1]
      exact dd_snoc t acc h
    · have e1 : ∀ L, dd acc (x :: L) = x :: dd (acc ++ [x]) L := fun L => by simp only [dd]; exact if_neg hx
      simp only [List.cons_append, e1]
      rw [dd_snoc t (acc ++ [x]) h]
      have e : (h ∈ (acc ++ [x]) ++ dd (acc ++ [x]) t) ↔ h ∈ acc ++ x :: dd (acc ++ [x]) t := by simp
      by_cases hh : h ∈ (acc ++ [x]) ++ dd (acc ++ [x]) t
      · rw [if_pos hh, if_pos (e.1 hh)]
      · rw [if_neg hh, if_neg (fun h2 => hh (e.2 h2))]
/-- The first loop of Closure: one call more. -/
theorem dd_take {first : List Gr} {i : Nat} (hi : i < first.length) : dd [] (first.take (i + 1)) = if first[i] ∈ dd [] (first.take i) then dd [] (first.take i) else dd [] (first.take i) ++ [first[i]] := by
  rw [List.take_succ_eq_append_getElem hi, dd_snoc, List.nil_append]
theorem dd_len : ∀ (L acc : List Gr), (dd acc L).length ≤ L.length
  | [], _ => Nat.le_refl _
  | x :: t, acc => by
    simp only [dd]
    split
    · have := dd_len t acc
      simp
      omega
    · have := dd_len t (acc ++ [x])
      simp
      omega
/-- The row in order holds what the closure holds so far. -/
def Hold (S : List Cl) (all : List Gr) : Prop := Ord S ∧ S.length = all.length ∧ ∀ c, c ∈ S ↔ c ∈ all.map callG
theorem Hold.put {S : List Cl} {all : List Gr} (h : Hold S all) (ht : ∀ g ∈ all, GTab g) {g : Gr} (hg : GTab g) {k : Nat} (hk : k ≤ S.length) (h1 : Low S (callG g) k) (h2 : High S (callG g) k) :
    ((putF S (callG g) k).2 = true ↔ g ∉ all) ∧ Hold (putF S (callG g) k).1 (if g ∈ all then all else all ++ [g]) := by
  obtain ⟨p1, p2, p3, p4⟩ := putF_law h.1 hk h1 h2
  have hm : callG g ∈ S ↔ g ∈ all := by
    rw [h.2.2, List.mem_map]
    exact ⟨fun ⟨x, hx, e⟩ => by rw [← callG_inj (ht x hx) hg e]; exact hx, fun hx => ⟨g, hx, rfl⟩⟩
  refine ⟨by rw [p2, hm], p1, ?_, fun c => ?_⟩
  · rw [p4, h.2.1]
    by_cases hx : g ∈ all
    · have : (putF S (callG g) k).2 = false := by
        cases hb : (putF S (callG g) k).2 with
        | false => rfl
        | true => exact absurd (hm.2 hx) (p2.1 hb)
      rw [this, if_pos hx]
      rfl
    · rw [p2.2 (fun e => hx (hm.1 e)), if_neg hx, List.length_append]
      rfl
  · rw [p3]
    by_cases hx : g ∈ all
    · rw [if_pos hx, h.2.2]
      exact ⟨fun e => e.elim (fun e => by rw [e]; exact List.mem_map_of_mem hx) id, .inr⟩
    · rw [if_neg hx, List.map_append, List.mem_append, h.2.2]
      exact ⟨fun e => e.elim (fun e => .inr (by rw [e]; simp)) .inl, fun e => e.elim .inr (fun e => .inl (by simpa using e))⟩
end Go.Proofs.Ytiepinfcndefhaa.S
