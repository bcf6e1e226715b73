/- What arguments read as data are: calls, a change. -/
import Derived.Test.YtiepinfcndefhaaSq
import Derived.ChangeSame
import Derived.ChangeArms
import Derived.ChangeSlices
import Derived.DataReads
import Derived.Deep.Strs
namespace Go.Proofs.Ytiepinfcndefhaa.S
open Go.RowKit Go.Proofs.YtiepinfcndefhaaW.PrintWords Go.Proofs.YtiepinfcndefhaaW.PrintLast Go.Proofs.YtiepinfcndefhaaW.PrintMore
open Go.ChangeShapes Go.WideShapes Go.Deep
set_option linter.unusedVariables false

/-- What reads as data of type t is of this kind. -/
def Opens {H : Type} {α : Type} (enc : TypeId × Value → H) (w : World) (base : Nat) (spare : Nat → Bool) (held : Bool) (d : Kd α) (t : TypeId) : Prop :=
  ∀ (fuel : Nat) (cs : List Value) (x : DataW H × List MemPlace), DataW.trod enc Try.prog w base spare held fuel t cs = some x → ∃ a, d.K w a cs
section
variable {H : Type} {α β γ δ : Type} {enc : TypeId × Value → H} {w : World} {base : Nat} {spare : Nat → Bool} {held : Bool}
theorem opens_int {t : TypeId} {k : IntKind} (ht : Try.prog.underlying t = some (.int k)) : Opens enc w base spare held (Kd.int k) t := fun fuel cs x h => by
  obtain ⟨n, rfl, _⟩ := DataW.trod_int ht h
  exact ⟨n, rfl⟩
theorem opens_bool {t : TypeId} (ht : Try.prog.underlying t = some .bool) : Opens enc w base spare held Kd.bool t := fun fuel cs x h => by
  obtain ⟨n, rfl, _⟩ := DataW.trod_bool ht h
  exact ⟨n, rfl⟩
theorem opens_string {t : TypeId} (ht : Try.prog.underlying t = some .string) : Opens enc w base spare held kStr t := fun fuel cs x h => by
  obtain ⟨n, rfl, _⟩ := DataW.trod_string ht h
  exact ⟨n, rfl⟩
theorem opens_slice {t e : TypeId} {d : Kd α} (ht : Try.prog.underlying t = some (.slice e)) (hc : Try.prog.cellsOf e = d.sz) (hd : Opens enc w base spare held d e) : Opens enc w base spare held (Kd.slice e d) t := fun fuel cs x h => by
  rcases DataW.trod_slice ht h with ⟨rfl, _⟩ | ⟨a, len, cap, elems, rest, n, _, rfl, _, _, hl, hm, hlen, hel, _, _⟩
  · exact ⟨[], none, 0, rfl, Nat.le_refl _, Kd.C_nil d w⟩
  · have each : ∀ i, i < len → ∃ (p : α) (c : List Value), c.length = d.sz ∧ d.K w p c ∧ ∀ j u, c[j]? = some u → w.cell? (a.add (i * d.sz + j)) = some u := by
      intro i hi
      have h1 := hel i hi
      rw [List.getElem?_eq_getElem (by omega), Option.bind_eq_some_iff] at h1
      obtain ⟨c, hcs, hy⟩ := h1
      obtain ⟨_, hcl, hcc⟩ := World.cells?_some hcs
      obtain ⟨p, hp⟩ := hd n c _ hy
      refine ⟨p, c, by rw [hcl, hc], hp, fun j u hj => ?_⟩
      have hjl := (List.getElem?_eq_some_iff.1 hj).1
      have h2 := hcc j (by omega)
      rw [hc, hj] at h2
      rw [← h2, Addr.add_add]
    have pick : ∀ i : Fin len, ∃ p : α, ∃ c : List Value, c.length = d.sz ∧ d.K w p c ∧ ∀ j u, c[j]? = some u → w.cell? (a.add (i.val * d.sz + j)) = some u := fun i => each i.val i.isLt
    refine ⟨List.ofFn fun i => Classical.choose (pick i), some a, cap, ?_, ?_, ?_⟩
    · rw [List.length_ofFn]
    · rw [List.length_ofFn]; exact hl
    · rw [List.length_ofFn]
      refine ⟨List.length_ofFn, by simp only [maxLen] at hm; omega, fun _ => ⟨a, rfl, fun j p hj => ?_⟩⟩
      obtain ⟨hjl, hjp⟩ := List.getElem?_eq_some_iff.1 hj
      rw [List.length_ofFn] at hjl
      rw [List.getElem_ofFn] at hjp
      have h3 := Classical.choose_spec (pick ⟨j, hjl⟩)
      rw [hjp] at h3
      exact h3
theorem opens_three {t : TypeId} {f0 f1 f2 : Field} {a : Kd α} {b : Kd β} {c : Kd γ} {d : Kd δ} (f : δ → α × β × γ) (g : α → β → γ → δ) (hfg : ∀ x y z, f (g x y z) = (x, y, z)) (ht : Try.prog.underlying t = some (.struct #[f0, f1, f2])) (hc : Try.prog.cellsOf t = a.sz + (b.sz + c.sz))
    (h0 : f0.offset = 0) (h1 : f1.offset = a.sz) (h2 : f2.offset = a.sz + b.sz) (hc0 : Try.prog.cellsOf f0.type = a.sz) (hc1 : Try.prog.cellsOf f1.type = b.sz) (hc2 : Try.prog.cellsOf f2.type = c.sz) (hK : ∀ w x cs, d.K w x cs = (Kd.pair a (Kd.pair b c)).K w (f x) cs)
    (ha : Opens enc w base spare held a f0.type) (hb : Opens enc w base spare held b f1.type) (hd : Opens enc w base spare held c f2.type) : Opens enc w base spare held d t := fun fuel cs x h => by
  obtain ⟨y0, y1, y2, n, _, hl, h3, h4, h5⟩ := trod_struct3 ht h
  obtain ⟨p, hp⟩ := ha n _ _ h3
  obtain ⟨q, hq⟩ := hb n _ _ h4
  obtain ⟨r, hr⟩ := hd n _ _ h5
  rw [h0, hc0, List.drop_zero] at hp
  rw [h1, hc1] at hq
  rw [h2, hc2] at hr
  refine ⟨g p q r, ?_⟩
  rw [hK, hfg]
  refine ⟨_, _, ?_, hp, _, _, rfl, hq, hr⟩
  rw [List.take_of_length_le (l := cs.drop (a.sz + b.sz)) (by rw [List.length_drop]; omega)]
  have e : cs.drop (a.sz + b.sz) = (cs.drop a.sz).drop b.sz := by rw [List.drop_drop]
  rw [e, List.take_append_drop, List.take_append_drop]
/-- A change: a call left out, an arc more at a call. -/
def kCh : Kd (Int × Int × Ac) := Kd.pair (Kd.int .i64) (Kd.pair (Kd.int .i64) kAc)
theorem opens24 : Opens enc w base spare held kAc 24 := opens_three (a := Kd.int .i64) (b := Kd.int .i64) (c := Kd.bool) (d := kAc) (fun x : Ac => (x.a, x.b, x.s)) (fun x y z => ⟨x, y, z⟩) (fun _ _ _ => rfl) Try.underlying24 (by kernel_rfl) rfl rfl rfl (by kernel_rfl) (by kernel_rfl) (by kernel_rfl) (fun _ _ _ => rfl) (opens_int Try.underlying3) (opens_int Try.underlying3) (opens_bool Try.underlying4)
theorem opens32 : Opens enc w base spare held (Kd.slice 24 kAc) 32 := opens_slice Try.underlying32 (by kernel_rfl) opens24
theorem opens34 : Opens enc w base spare held kCl 34 := opens_three (a := kStr) (b := kStr) (c := Kd.slice 24 kAc) (d := kCl) (fun x : Cl => (x.src, x.dst, x.arcs)) (fun x y z => ⟨x, y, z⟩) (fun _ _ _ => rfl) Try.underlying34 (by kernel_rfl) rfl rfl rfl (by kernel_rfl) (by kernel_rfl) (by kernel_rfl) (fun _ _ _ => rfl) (opens_string Try.underlying9) (opens_string Try.underlying9) opens32
theorem opens22 : Opens enc w base spare held (Kd.slice 34 kCl) 22 := opens_slice Try.underlying22 (by kernel_rfl) opens34
theorem opens26 : Opens enc w base spare held kCh 26 := opens_three (a := Kd.int .i64) (b := Kd.int .i64) (c := kAc) (d := kCh) (fun x : Int × Int × Ac => x) (fun x y z => (x, y, z)) (fun _ _ _ => rfl) Try.underlying26 (by kernel_rfl) rfl rfl rfl (by kernel_rfl) (by kernel_rfl) (by kernel_rfl) (fun _ _ _ => rfl) (opens_int Try.underlying3) (opens_int Try.underlying3) opens24
/-- A row among the arguments. -/
theorem row_of {e t : TypeId} {d : Kd α} (h : Opens enc w base spare held (Kd.slice e d) t) {a : Option Addr} {len cap : Nat} {x : DataW H × List MemPlace} {fuel : Nat} (hx : DataW.trod enc Try.prog w base spare held fuel t (Value.slice a len cap).cells.toList = some x) : ∃ l : List α, l.length = len ∧ len ≤ cap ∧ d.C w a len l := by
  obtain ⟨l, A, c, he, hl, hC⟩ := h fuel _ x hx
  have he2 : (Value.slice a len cap) = .slice A l.length c := by simpa [Value.cells] using he
  injection he2 with h1 h2 h3
  subst h1
  subst h2
  subst h3
  exact ⟨l, rfl, hl, hC⟩
theorem open26 {x : Int × Int × Ac} {cs : Array Value} (h : kCh.K w x cs.toList) : cs = #[.int .i64 x.1, .int .i64 x.2.1, .int .i64 x.2.2.a, .int .i64 x.2.2.b, .bool x.2.2.s] := by
  obtain ⟨_, _, hq, rfl, _, _, rfl, rfl, _, _, rfl, rfl, _, _, rfl, rfl, rfl⟩ := h
  exact Array.ext' hq
theorem open34 {x : Cl} {cs : Array Value} (h : kCl.K w x cs.toList) : ∃ A c, cs = #[.string x.src, .string x.dst, .slice A x.arcs.length c] ∧ x.arcs.length ≤ c ∧ kAc.C w A x.arcs.length x.arcs := by
  obtain ⟨_, _, hq, rfl, _, _, rfl, rfl, A, c, rfl, h1, h2⟩ := h
  exact ⟨A, c, Array.ext' hq, h1, h2⟩
end
end Go.Proofs.Ytiepinfcndefhaa.S
