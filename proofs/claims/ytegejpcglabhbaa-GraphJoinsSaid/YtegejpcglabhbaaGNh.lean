/- Plain law: constraints that hold, by their sides. -/
import Derived.Test.YtegejpcglabhbaaGNa
import Derived.Test.YtegejpcglabhbaaGHh
namespace Go.Proofs.Ytegejpcglabhbaa.G
open Go.RowKit Go.Proofs.YtegejpcglabhbaaW.PrintWords Go.Proofs.YtegejpcglabhbaaW.PrintLast Go.Proofs.YtegejpcglabhbaaW.PrintMore
set_option linter.unusedVariables false
set_option linter.unusedSimpArgs false

/-! ### constraints and arcs -/
theorem sideB_le {a : S41} {vals : List Int} {X : Int} : sideB a vals ≤ X ↔ a.f0 ≤ X ∧ ∀ v ∈ a.f1, vals.getD v.f0.toNat 0 + v.f1 ≤ X := by
  unfold sideB
  generalize a.f0 = m
  induction a.f1 generalizing m with
  | nil => simp
  | cons v l ih =>
    rw [List.foldl_cons, ih]
    simp only [List.mem_cons, forall_eq_or_imp]
    rw [Int.max_le]
    exact and_assoc
theorem sideB_ge (a : S41) (vals : List Int) : a.f0 ≤ sideB a vals := (sideB_le.1 (Int.le_refl _)).1
theorem sideB_nil {a : S41} {vals : List Int} (h : a.f1.length = 0) : sideB a vals = a.f0 := by
  unfold sideB
  rw [List.length_eq_zero_iff.1 h]
  rfl
theorem sideB_one {a : S41} {vals : List Int} (h : a.f1.length = 1) : sideB a vals = max a.f0 (vals.getD (rd_T96 a.f1 0).f0.toNat 0 + (rd_T96 a.f1 0).f1) := by
  unfold sideB
  obtain ⟨v, hv⟩ := List.length_eq_one_iff.1 h
  rw [hv]
  rfl
/-- A constraint holds exactly if its arcs suit. -/
theorem broken_arcs {n : Nat} {c : S44} (h : FitOk n c) (i : Int) {vals : List Int} (hl : vals.length = n) (h0 : ∀ v, 0 ≤ vals.getD v 0) : brokenB vals c = false ↔ ∀ a ∈ arcsOf n i c, vals.getD a.f0.toNat 0 + a.f2 ≤ vals.getD a.f1.toNat 0 := by
  have hz : vals.getD n 0 = 0 := getD_ge (by omega)
  have hm : arcsOf n i c = ⟨n, (bndOf n c.f1).1, c.f0.f0 - (bndOf n c.f1).2, i⟩ :: c.f0.f1.map fun v => ⟨v.f0, (bndOf n c.f1).1, v.f1 - (bndOf n c.f1).2, i⟩ := rfl
  have hX : sideB c.f1 vals = vals.getD (bndOf n c.f1).1.toNat 0 + (bndOf n c.f1).2 := by
    unfold bndOf
    by_cases e : c.f1.f1.length = 1
    · rw [if_pos e, sideB_one e, h.zero e]
      have hmem : rd_T96 c.f1.f1 0 ∈ c.f1.f1 := by
        obtain ⟨v, hv⟩ := List.length_eq_one_iff.1 e
        rw [hv]
        exact List.mem_singleton.2 rfl
      have := h.b.var _ hmem
      have := h0 (rd_T96 c.f1.f1 0).f0.toNat
      show max 0 (vals.getD (rd_T96 c.f1.f1 0).f0.toNat 0 + (rd_T96 c.f1.f1 0).f1) = vals.getD (rd_T96 c.f1.f1 0).f0.toNat 0 + (rd_T96 c.f1.f1 0).f1
      omega
    · rw [if_neg e, sideB_nil (by have := h.one; omega)]
      show c.f1.f0 = vals.getD (n : Int).toNat 0 + c.f1.f0
      rw [Int.toNat_natCast, hz]
      omega
  unfold brokenB
  rw [decide_eq_false_iff_not, Int.not_lt, hX, hm, sideB_le]
  simp only [List.mem_cons, forall_eq_or_imp, List.mem_map, forall_exists_index, and_imp, forall_apply_eq_imp_iff₂, Int.toNat_natCast, hz]
  constructor
  · rintro ⟨h1, h2⟩
    exact ⟨by omega, fun v hv => by have := h2 v hv; omega⟩
  · rintro ⟨h1, h2⟩
    exact ⟨by omega, fun v hv => by have := h2 v hv; omega⟩
/-- All constraints hold exactly if the numbers are a solution. -/
theorem holds_sol {n : Nat} {l : List S44} (hs : SysOk n l) {vals : List Int} (hl : vals.length = n) (h0 : ∀ v, 0 ≤ vals.getD v 0) : (∀ c ∈ l, brokenB vals c = false) ↔ Sol n (sysArcs n l) (fun v => vals.getD v 0) := by
  constructor
  · intro h
    refine ⟨getD_ge (by omega), fun a ha => ?_⟩
    rcases mem_sysArcs.1 ha with ⟨v, hv, rfl⟩ | ⟨i, hi, ha⟩
    · simp only [natArc, Int.toNat_natCast]
      rw [getD_ge (by omega)]
      have := h0 v
      omega
    · exact (broken_arcs (hs.fit _ (List.getElem_mem hi)) i hl h0).1 (h _ (List.getElem_mem hi)) a ha
  · intro h c hc
    obtain ⟨i, hi, rfl⟩ := List.mem_iff_getElem.1 hc
    exact (broken_arcs (hs.fit _ hc) (i : Int) hl h0).2 fun a ha => h.arc a (mem_sysArcs.2 (.inr ⟨i, hi, ha⟩))
theorem idxB_neg {α : Type} (p : α → Bool) : ∀ (l : List α) (i : Nat), (idxB p l i = -1 ↔ ∀ x ∈ l, p x = false) ∧ (idxB p l i ≠ -1 → (i : Int) ≤ idxB p l i)
  | [], i => ⟨by simp [idxB], fun h => absurd rfl h⟩
  | x :: l, i => by
    obtain ⟨h1, h2⟩ := idxB_neg p l (i + 1)
    simp only [idxB]
    by_cases h : p x = true
    · rw [if_pos h]
      exact ⟨⟨fun e => by omega, fun e => by rw [e x List.mem_cons_self] at h; cases h⟩, fun _ => Int.le_refl _⟩
    · rw [if_neg h]
      refine ⟨?_, fun e => by have := h2 e; omega⟩
      rw [h1]
      simp only [List.mem_cons, forall_eq_or_imp]
      exact ⟨fun e => ⟨by simpa using h, e⟩, fun e => e.2⟩
end Go.Proofs.Ytegejpcglabhbaa.G
