/- Plain law: searches in the nets of systems. -/
import Derived.Test.YtegejpcglabhbaaGNs
import Derived.Test.YtegejpcglabhbaaGNv
namespace Go.Proofs.Ytegejpcglabhbaa.G
open Go.RowKit Go.Proofs.YtegejpcglabhbaaW.PrintWords Go.Proofs.YtegejpcglabhbaaW.PrintLast Go.Proofs.YtegejpcglabhbaaW.PrintMore
set_option linter.unusedVariables false
set_option linter.unusedSimpArgs false

/-! ### the nets -/
theorem foldl_get (l : List S105) : ∀ (rows : List (List S105)) (v : Nat), v < rows.length → (∀ a ∈ l, 0 ≤ a.f0 ∧ a.f0.toNat < rows.length) → (l.foldl addArc rows).getD v [] = rows.getD v [] ++ l.filter fun a => decide (a.f0 = (v : Int)) := by
  induction l with
  | nil => intro rows v hv _; simp
  | cons a l ih =>
    intro rows v hv h
    have ha := h a List.mem_cons_self
    rw [List.foldl_cons, ih (addArc rows a) v (by rw [addArc_length]; exact hv) (fun b hb => by rw [addArc_length]; exact h b (List.mem_cons_of_mem _ hb))]
    unfold addArc
    rw [gset _ _ _ _ _ ha.2, List.filter_cons]
    by_cases e : v = a.f0.toNat
    · rw [if_pos e, if_pos (by simp; omega), e, List.append_assoc]
      rfl
    · rw [if_neg e, if_neg (by simp; omega)]
theorem rows_mem {n : Nat} {E : List S105} (hE : ArcsOk n E) : ∀ v, v ≤ n → ∀ a, a ∈ (rowsOf (n + 1) E).getD v [] ↔ (a ∈ E ∧ a.f0 = (v : Int)) := by
  intro v hv a
  unfold rowsOf
  rw [foldl_get E _ v (by rw [List.length_replicate]; omega) (fun b hb => by have := hE b hb; rw [List.length_replicate]; omega), gets_rep, List.nil_append, List.mem_filter]
  simp
theorem sys_arcs {n : Nat} {l : List S44} (hs : SysOk n l) {which : List Int} (hw : Which l which) : ArcsOk n (allArcs n l which) := fun a ha => by
  have := allArcs_mem hs.fit hw ha
  refine ⟨this.1, this.2.1, this.2.2.1, this.2.2.2.1, this.2.2.2.2.1, this.2.2.2.2.2.1, ?_⟩
  rcases this.2.2.2.2.2.2 with h | h
  · omega
  · have := hw _ h; omega
theorem sys_len {n : Nat} {l : List S44} (hs : SysOk n l) {which : List Int} (hw : Which l which) (h3 : which.length ≤ 3000) : (allArcs n l which).length ≤ 100000 := by
  have h1 := flat_len (fun i => arcsOf n i (rd_T44 l i)) 9 which (fun y hy => by
    have := hw y hy
    exact (arcs_len (hs.fit _ (mem_rd44 this.1 this.2))).1)
  have h2 : (natArcs n).length = n := by simp [natArcs]
  have := hs.n1
  unfold allArcs
  rw [List.length_append]
  omega
/-- A search in the net of some of the constraints comes to an end. -/
theorem search_spec {n : Nat} {l : List S44} (hs : SysOk n l) {which : List Int} (hw : Which l which) {s : Nat} (hsn : s ≤ n) : ∃ R, Ev (fun k => search k n l which (s : Int)) R ∧ FarPost n s (allArcs n l which) R :=
  far_spec hs.n1 (sys_arcs hs hw) hsn _ (rows_mem (sys_arcs hs hw))
theorem nat_mem {n v : Nat} (hv : v < n) (l : List S44) (which : List Int) : natArc n v ∈ allArcs n l which := List.mem_append_left _ (List.mem_map.2 ⟨v, List.mem_range.2 hv, rfl⟩)
/-- From the node 0 all nodes are reached. -/
theorem all_known {n : Nat} {l : List S44} {which : List Int} {is : Nat → Bool} {d : Nat → Int} (h : Closed (allArcs n l which) n is d) : ∀ v, v ≤ n → is v = true := by
  intro v hv
  by_cases e : v = n
  · rw [e]; exact h.start
  · have h1 := h.arc _ (nat_mem (by omega : v < n) l which) (by show is (n : Int).toNat = true; rw [Int.toNat_natCast]; exact h.start)
    have h2 := h1.1
    simpa [natArc] using h2
end Go.Proofs.Ytegejpcglabhbaa.G
