/- Does some argument become smaller: the walk. No condition. -/
import Derived.Test.YtiepinfcndefhaaSa
namespace Go.Proofs.Ytiepinfcndefhaa.S
open Go.RowKit Go.Proofs.YtiepinfcndefhaaW.PrintWords Go.Proofs.YtiepinfcndefhaaW.PrintLast Go.Proofs.YtiepinfcndefhaaW.PrintMore
set_option linter.unusedVariables false
set_option linter.unusedSimpArgs false

theorem descB_true {g : Gr} {i : Nat} (hi : i < 6) (h : tat g.tab i i = 2) : descB g = true := by
  unfold descB
  exact List.any_eq_true.2 ⟨i, List.mem_range.2 hi, by rw [h]; rfl⟩
theorem descB_false {g : Gr} (h : ∀ i, i < 6 → tat g.tab i i ≠ 2) : descB g = false := by
  unfold descB
  rw [Bool.eq_false_iff]
  intro e
  obtain ⟨i, hi, e⟩ := List.any_eq_true.1 e
  exact h i (List.mem_range.1 hi) (beq_iff_eq.1 e)

set_option maxRecDepth 100000 in
theorem descends_calls (g : Gr) (hg : GTab g) (w : World) :
    Calls Try.prog 70 #[vG g] w fun e w' => e = .returned (.bool (descB g)) ∧ Below w.heap.size w w' := by
  unfold vG
  generalize hcg : cG g = cg
  have HCG := Aside0.mk hcg
  clear hcg
  go_enter Try.func70, Try.ntmps70
  go_wp2
  have G0 := Aside0.mk (blk_new w (.cells cg 81))
  have HB := Aside0.mk (below_alloc (Below.refl w.heap.size w) (.cells cg 81))
  generalize w.alloc (.cells cg 81) = W at G0 HB ⊢
  go_loopg [4] 6 (fun kq v4 w' => ∃ (i : Nat), v4 = .int .i64 (i : Int) ∧ Aside0 (kq + i = 6) ∧ Aside0 (∀ j, j < i → tat g.tab j j ≠ 2) ∧ Aside0 (w'.heap[w.heap.size]? = some (.cells cg 81 (0, 0))) ∧ Aside0 (Below w.heap.size w w'))
  case atStart => exact ⟨0, rfl, ⟨rfl⟩, ⟨fun j hj => absurd hj (by omega)⟩, G0, HB⟩
  case round =>
    clear G0 HB
    obtain ⟨i, rfl, HK, HN, G0, HB⟩ := hrel
    by_cases hlt : i < 6
    · have hdx : decide ((i : Int) < 6) = true := decide_eq_true (by omega)
      have c0 := blk_at G0.out (by rw [← HCG.out]; exact cG_at hg.len hlt hlt)
      by_cases h2 : tat g.tab i i = 2
      · have hd : (tat g.tab i i == 2) = true := beq_iff_eq.mpr h2
        have HR := Aside0.mk (descB_true hlt h2)
        clear h2
        go_wp2
        go_ret
        exact ⟨by show _ = Ending.returned (.bool (descB g)); rw [HR.out]; rfl, HB.out⟩
      · have hd : (tat g.tab i i == 2) = false := beq_eq_false_iff_ne.mpr h2
        have HN2 := Aside0.mk (show ∀ j, j < i + 1 → tat g.tab j j ≠ 2 from fun j hj => by
          by_cases e : j = i
          · subst e; exact h2
          · exact HN.out j (by omega))
        clear h2
        go_wp2
        go_roundg (6 - i - 1)
        case measure => have := HK.out; omega
        case rel => exact ⟨i + 1, by go_num, ⟨by have := HK.out; omega⟩, HN2, G0, HB⟩
    · have hdx : decide ((i : Int) < 6) = false := decide_eq_false (by omega)
      have HR := Aside0.mk (descB_false (g := g) (fun j hj => HN.out j (by have := HK.out; omega)))
      go_wp2
      go_ret
      exact ⟨by show _ = Ending.returned (.bool (descB g)); rw [HR.out]; rfl, HB.out⟩
end Go.Proofs.Ytiepinfcndefhaa.S
