import Derived.Test.YtlidibbdacohaaaR5
import Derived.Test.YtlidibbdacohaaaR6
/- What arguments read as data are: lists of monomials. No condition. -/
namespace Go.Proofs.Ytlidibbdacohaaa.R
section
open Go.RowKit Go.Proofs.Ytlidibbdacohaaa.PRingEquals Go.Proofs.YtlidibbdacohaaaW.PrintWords Go.Proofs.YtlidibbdacohaaaW.PrintLast Go.Proofs.YtlidibbdacohaaaW.PrintMore
open Go.ChangeShapes Go.WideShapes Go.Deep
set_option linter.unusedVariables false

section
variable {H : Type} {α : Type} {enc : TypeId × Value → H} {w : World} {base : Nat} {spare : Nat → Bool} {held : Bool}
set_option maxRecDepth 100000 in
theorem opens74 (fuel : Nat) : OpensN enc w base spare held k74 74 fuel := by
  intro cs x h
  obtain ⟨xs, n, hfu, rfl, hl, hlen, hf⟩ := DataW.trod_struct Try.underlying74 h
  have e74 : Try.prog.cellsOf 74 = 2 := by kernel_rfl
  replace hl : cs.length = 2 := hl.trans e74
  have e3 : Try.prog.cellsOf 3 = 1 := by kernel_rfl
  have e33 : Try.prog.cellsOf 33 = 1 := by kernel_rfl
  match xs, hlen, cs, hl, hf with
  | [y0, y1], _, [c0, c1], _, hf =>
    have h3 : DataW.trod enc Try.prog w base spare held n 3 (List.take (Try.prog.cellsOf 3) [c0, c1]) = some y0 := hf 0 _ rfl
    have h4 : DataW.trod enc Try.prog w base spare held n 33 (List.take (Try.prog.cellsOf 33) [c1]) = some y1 := hf 1 _ rfl
    rw [e3] at h3
    rw [e33] at h4
    obtain ⟨p, hp⟩ := opens_int Try.underlying3 n _ _ h3
    obtain ⟨l, A, c, hcs, hlc, hC⟩ := opens_slice (d := Kd.int .i64) Try.underlying33 (by kernel_rfl) (fun m _ => opens_int Try.underlying3 m) _ _ h4
    have hp' : [c0] = [Value.int .i64 p] := hp
    injection hp' with hp'
    injection hcs with hcs
    subst hp' hcs
    exact ⟨⟨p, l⟩, k74_mk w ⟨p, l⟩ hlc hC⟩
/-- A list of monomials among the arguments. -/
theorem open_monos {t : TypeId} (ht : Try.prog.underlying t = some (.slice 74)) {a : Option Addr} {len cap : Nat} {x : DataW H × List MemPlace} {fuel : Nat} (hx : DataW.trod enc Try.prog w base spare held fuel t (Value.slice a len cap).cells.toList = some x) : ∃ l : Po, l.length = len ∧ len ≤ cap ∧ k74.C w a len (toL l) := by
  obtain ⟨l, A, c, he, hl, hC⟩ := opens_slice (d := k74) ht (by kernel_rfl) (fun m _ => opens74 m) _ x hx
  have he2 : (Value.slice a len cap) = .slice A l.length c := by simpa [Value.cells] using he
  injection he2 with h1 h2 h3
  subst h1
  subst h2
  subst h3
  exact ⟨l.map ofS, by simp, hl, by rw [toL_of]; exact hC⟩
end
end
end Go.Proofs.Ytlidibbdacohaaa.R
