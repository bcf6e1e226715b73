/- A part of this claim's proof: texts of its author, and printed ones, packed by a program of its author's. -/
import Derived.Test.YtegejpcglabhbaaCd2
import Derived.ChangeSame
import Derived.ChangeArms
import Derived.ChangeSlices
import Derived.DataReads
namespace Go.Proofs.Ytegejpcglabhbaa.G
open Go.RowKit Go.Proofs.YtegejpcglabhbaaW.PrintWords Go.Proofs.YtegejpcglabhbaaW.PrintLast Go.Proofs.YtegejpcglabhbaaW.PrintMore
open Go.ChangeShapes Go.WideShapes
set_option linter.unusedVariables false
section
def Opens {H : Type} {α : Type} (enc : TypeId × Value → H) (w : World) (base : Nat) (spare : Nat → Bool) (held : Bool) (d : Kd α) (t : TypeId) : Prop :=
 ∀ (fuel : Nat) (cs : List Value) (x : DataW H × List MemPlace), DataW.trod enc Try.prog w base spare held fuel t cs = some x → ∃ a, d.K w a cs
section
variable {H : Type} {α β γ : Type} {enc : TypeId × Value → H} {w : World} {base : Nat} {spare : Nat → Bool} {held : Bool}
theorem opens_int {t : TypeId} {k : IntKind} (ht : Try.prog.underlying t = some (.int k)) : Opens enc w base spare held (Kd.int k) t := fun fuel cs x h => by
 obtain ⟨n, rfl, _⟩ := DataW.trod_int ht h
 exact ⟨n, rfl⟩
theorem opens_slice {t e : TypeId} {d : Kd α} (ht : Try.prog.underlying t = some (.slice e)) (hc : Try.prog.cellsOf e = d.sz) (hd : Opens enc w base spare held d e) : Opens enc w base spare held (Kd.slice e d) t := fun fuel cs x h => by
 rcases DataW.trod_slice ht h with ⟨rfl, _⟩ | ⟨a, len, cap, elems, rest, n, _, rfl, _, _, hl, hm, hlen, hel, _, _⟩
 ·exact ⟨[], none, 0, rfl, Nat.le_refl _, Kd.C_nil d w⟩
 ·have each : ∀ i, i < len → ∃ (p : α) (c : List Value), c.length = d.sz ∧ d.K w p c ∧ ∀ j u, c[j]? = some u → w.cell? (a.add (i * d.sz + j)) = some u := by
   intro i hi
   have h1 := hel i hi
   rw [List.getElem?_eq_getElem (by omega), Option.bind_eq_some_iff] at h1
   obtain ⟨c, hcs, hy⟩ := h1
   obtain ⟨_, hcl, hcc⟩ := World.cells?_some hcs
   obtain ⟨p, hp⟩ := hd n c _ hy
   refine ⟨p, c, by rw [hcl, hc], hp, fun j u hj => ?_⟩
   have hjl := (List.getElem?_eq_some_iff.1 hj).1
   have h2 := hcc j (by omega)
   rw [hc, hj] at h2
   rw [← h2, Addr.add_add]
  have pick : ∀ i : Fin len, ∃ p : α, ∃ c : List Value, c.length = d.sz ∧ d.K w p c ∧ ∀ j u, c[j]? = some u → w.cell? (a.add (i.val * d.sz + j)) = some u := fun i => each i.val i.isLt
  refine ⟨List.ofFn fun i => Classical.choose (pick i), some a, cap, ?_, ?_, ?_⟩
  ·rw [List.length_ofFn]
  ·rw [List.length_ofFn]; exact hl
  ·rw [List.length_ofFn]
   refine ⟨List.length_ofFn, by simp only [maxLen] at hm; omega, fun _ => ⟨a, rfl, fun j p hj => ?_⟩⟩
   obtain ⟨hjl, hjp⟩ := List.getElem?_eq_some_iff.1 hj
   rw [List.length_ofFn] at hjl
   rw [List.getElem_ofFn] at hjp
   have h3 := Classical.choose_spec (pick ⟨j, hjl⟩)
   rw [hjp] at h3
   exact h3
theorem opens_pair {t : TypeId} {f0 f1 : Field} {a : Kd α} {b : Kd β} {c : Kd γ} (f : γ → α × β) (g : α → β → γ) (hfg : ∀ x y, f (g x y) = (x, y)) (ht : Try.prog.underlying t = some (.struct #[f0, f1])) (hc : Try.prog.cellsOf t = a.sz + b.sz)
  (h0 : f0.offset = 0) (h1 : f1.offset = a.sz) (hc0 : Try.prog.cellsOf f0.type = a.sz) (hc1 : Try.prog.cellsOf f1.type = b.sz) (hK : ∀ w x cs, c.K w x cs = (Kd.pair a b).K w (f x) cs) (ha : Opens enc w base spare held a f0.type) (hb : Opens enc w base spare held b f1.type) : Opens enc w base spare held c t := fun fuel cs x h => by
 obtain ⟨y0, y1, n, _, hl, h2, h3⟩ := trod_struct2 ht h
 obtain ⟨p, hp⟩ := ha n _ _ h2
 obtain ⟨q, hq⟩ := hb n _ _ h3
 rw [h0, hc0, List.drop_zero] at hp
 rw [h1, hc1] at hq
 refine ⟨g p q, ?_⟩
 rw [hK, hfg]
 refine ⟨_, _, ?_, hp, hq⟩
 rw [List.take_of_length_le (l := cs.drop a.sz) (by rw [List.length_drop]; omega), List.take_append_drop]
theorem opens96 : Opens enc w base spare held k96 96 := opens_pair (a := Kd.int .i64) (b := Kd.int .i64) (c := k96) (fun x : S96 => (x.f0, x.f1)) (fun x y => ⟨x, y⟩) (fun _ _ => rfl) Try.underlying96 (by kernel_rfl) rfl rfl (by kernel_rfl) (by kernel_rfl) (fun _ _ _ => rfl) (opens_int Try.underlying3) (opens_int Try.underlying3)
theorem opens39 : Opens enc w base spare held (Kd.slice 96 k96) 39 := opens_slice Try.underlying39 (by kernel_rfl) opens96
theorem opens41 : Opens enc w base spare held k41 41 := opens_pair (a := Kd.int .i64) (b := Kd.slice 96 k96) (c := k41) (fun x : S41 => (x.f0, x.f1)) (fun x y => ⟨x, y⟩) (fun _ _ => rfl) Try.underlying41 (by kernel_rfl) rfl rfl (by kernel_rfl) (by kernel_rfl) (fun _ _ _ => rfl) (opens_int Try.underlying3) opens39
theorem opens44 : Opens enc w base spare held k44 44 := opens_pair (a := k41) (b := k41) (c := k44) (fun x : S44 => (x.f0, x.f1)) (fun x y => ⟨x, y⟩) (fun _ _ => rfl) Try.underlying44 (by kernel_rfl) rfl rfl (by kernel_rfl) (by kernel_rfl) (fun _ _ _ => rfl) opens41 opens41
theorem opens22 : Opens enc w base spare held (Kd.slice 44 k44) 22 := opens_slice Try.underlying22 (by kernel_rfl) opens44
theorem row_of {e t : TypeId} {d : Kd α} (h : Opens enc w base spare held (Kd.slice e d) t) {a : Option Addr} {len cap : Nat} {x : DataW H × List MemPlace} {fuel : Nat} (hx : DataW.trod enc Try.prog w base spare held fuel t (Value.slice a len cap).cells.toList = some x) : ∃ l : List α, l.length = len ∧ len ≤ cap ∧ d.C w a len l := by
 obtain ⟨l, A, c, he, hl, hC⟩ := h fuel _ x hx
 have he2 : (Value.slice a len cap) = .slice A l.length c := by simpa [Value.cells] using he
 injection he2 with h1 h2 h3
 subst h1
 subst h2
 subst h3
 exact ⟨l, rfl, hl, hC⟩
end
end
end Go.Proofs.Ytegejpcglabhbaa.G
