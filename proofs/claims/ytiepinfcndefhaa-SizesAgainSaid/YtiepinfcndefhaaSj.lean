/- The set of graphs that were seen, as the program's map has it. No condition. -/
import Derived.Test.YtiepinfcndefhaaSe
import Derived.Maps.OwnSet
import Derived.Maps.Views
namespace Go.Proofs.Ytiepinfcndefhaa.S
open Go.RowKit Go.Maps Go.Proofs.YtiepinfcndefhaaW.PrintWords Go.Proofs.YtiepinfcndefhaaW.PrintLast Go.Proofs.YtiepinfcndefhaaW.PrintMore
set_option linter.unusedVariables false
set_option linter.unusedSimpArgs false

/-- The map of block mb holds just the graphs of a list. -/
def SeenM (W : World) (mb : Nat) (all : List Mk) : Prop := ∃ (n : Nat) (D : DataW Unit), W.ownsMap Try.prog 81 (plainElem Try.prog 4) mb n D ∧ n ≤ all.length ∧ ∀ g, GOk g → D.atKey (keyG g) (.lit (.bool false)) = .lit (.bool (all.any fun m => decide (m.1 = g)))
set_option maxRecDepth 100000 in
theorem plain4 {v : Value} {b : Bool} {ps : List MemPlace} (h : plainElem (H := Unit) Try.prog 4 v = some (.lit (.bool b), ps)) : v = .bool b := by
  unfold plainElem at h
  rw [Try.underlying4] at h
  cases v with
  | bool x =>
    have e := Option.some.inj h
    have e1 := congrArg Prod.fst e
    injection e1 with e1
    injection e1 with e1
    rw [e1]
  | _ => cases h
set_option maxRecDepth 100000 in
theorem seen_look {W : World} {mb : Nat} {all : List Mk} (h : SeenM W mb all) {g : Gr} (hg : GOk g) : (Instr.lookup 123 (.map (some mb)) (vG g) false).run Try.prog W = .ok (.bool (all.any fun m => decide (m.1 = g))) W := by
  obtain ⟨n, D, hD, _, hat⟩ := h
  have hz : (zeroValue 4).run Try.prog W = .ok (.bool false) W := by kernel_rfl
  obtain ⟨v, ps, hr, hv⟩ := hD.lookup keyed81 Try.underlying123 hz (plainElem_bool (H := Unit) Try.underlying4 false) (key_g hg)
  rw [hat g hg] at hv
  rw [hr, plain4 hv]
set_option maxRecDepth 100000 in
theorem vG_inj {g h : Gr} (hg : GOk g) (hh : GOk h) (e : vG g = vG h) : g = h := by
  have h1 := kl_g 0 hg
  have h2 := kl_g 0 hh
  have e2 : cG g = cG h := Value.agg.inj e
  rw [e2, h2] at h1
  exact (litsG_inj (Option.some.inj h1)).symm
theorem seen_new (W : World) : SeenM (W.alloc (.map #[] 0)) W.heap.size [] := ⟨0, .map [], World.ownsMap_made _ _ _ _, Nat.le_refl _, fun g _ => rfl⟩
theorem seen_kept {W W2 : World} {mb : Nat} {all : List Mk} {row : Option Nat} (h : SeenM W mb all) (hg : W.grownBy W2 row) (hne : some mb ≠ row) : SeenM W2 mb all := by
  obtain ⟨n, D, hD, hn, hat⟩ := h
  exact ⟨n, D, hD.kept hg hne, hn, hat⟩
set_option maxRecDepth 100000 in
theorem seen_put {W : World} {mb : Nat} {all : List Mk} (h : SeenM W mb all) (hl : all.length ≤ 100000) {g : Gr} (hg : GOk g) (way : List Int) : ∃ W2, (Instr.mapUpdate 123 (.map (some mb)) (vG g) (.bool true)).run Try.prog W = .ok () W2 ∧ SeenM W2 mb (all ++ [(g, way)]) ∧ W.grownBy W2 (some mb) := by
  obtain ⟨n, D, hD, hn, hat⟩ := h
  obtain ⟨W2, hr, h2, hgr⟩ := hD.update keyed81 Try.underlying123 (by unfold maxLen; omega) (key_g hg) (plainElem_bool (H := Unit) Try.underlying4 true)
  refine ⟨W2, hr, ⟨n + 1, _, h2, by simp; omega, fun g2 hg2 => ?_⟩, hgr⟩
  by_cases e : g2 = g
  · subst e
    rw [Maps.atKey_put_same hD.isMap (keyed81.key (key_g hg))]
    simp
  · have hne : keyG g2 ≠ keyG g := fun ek => e (vG_inj hg2 hg (keyed81.inj (key_g hg2) (ek ▸ key_g hg)))
    rw [Maps.atKey_put_other hne, hat g2 hg2]
    have : decide (g = g2) = false := decide_eq_false (fun h => e h.symm)
    simp [this]
end Go.Proofs.Ytiepinfcndefhaa.S
