/- What arguments read as data are: records of two. -/
import Derived.Test.YtegejpcglabhbaaGRd
namespace Go.Proofs.Ytegejpcglabhbaa.G
open Go.RowKit Go.Proofs.YtegejpcglabhbaaW.PrintWords Go.Proofs.YtegejpcglabhbaaW.PrintLast Go.Proofs.YtegejpcglabhbaaW.PrintMore
open Go.ChangeShapes Go.WideShapes
set_option linter.unusedVariables false
section
variable {H : Type} {enc : TypeId × Value → H} {w : World} {base : Nat} {spare : Nat → Bool} {held : Bool}
theorem opens38 : Opens enc w base spare held (Kd.pair (Kd.int .i64) (Kd.int .i64)) 38 := opens_pair (a := Kd.int .i64) (b := Kd.int .i64) (c := Kd.pair (Kd.int .i64) (Kd.int .i64)) (fun x : Int × Int => x) (fun x y => (x, y)) (fun _ _ => rfl) Try.underlying38 (by kernel_rfl) rfl rfl (by kernel_rfl) (by kernel_rfl) (fun _ _ _ => rfl) (opens_int Try.underlying3) (opens_int Try.underlying3)
theorem opens51 : Opens enc w base spare held (Kd.pair k44 k44) 51 := opens_pair (a := k44) (b := k44) (c := Kd.pair k44 k44) (fun x : S44 × S44 => x) (fun x y => (x, y)) (fun _ _ => rfl) Try.underlying51 (by kernel_rfl) rfl rfl (by kernel_rfl) (by kernel_rfl) (fun _ _ _ => rfl) opens44 opens44
theorem opens60 : Opens enc w base spare held (Kd.pair (Kd.slice 3 (Kd.int .i64)) (Kd.slice 44 k44)) 60 := opens_pair (a := Kd.slice 3 (Kd.int .i64)) (b := Kd.slice 44 k44) (c := Kd.pair (Kd.slice 3 (Kd.int .i64)) (Kd.slice 44 k44)) (fun x : List Int × List S44 => x) (fun x y => (x, y)) (fun _ _ => rfl) Try.underlying60 (by kernel_rfl) rfl rfl (by kernel_rfl) (by kernel_rfl) (fun _ _ _ => rfl) opens25 opens22
theorem open38 {x : Int × Int} {cs : Array Value} (h : (Kd.pair (Kd.int .i64) (Kd.int .i64)).K w x cs.toList) : cs = #[.int .i64 x.1, .int .i64 x.2] := by
  obtain ⟨_, _, hq, rfl, rfl⟩ := h
  exact Array.ext' hq
theorem open44 {x : S44} {cs : Array Value} (h : k44.K w x cs.toList) : ∃ A1 c1 A3 c3, cs = #[.int .i64 x.f0.f0, .slice A1 x.f0.f1.length c1, .int .i64 x.f1.f0, .slice A3 x.f1.f1.length c3] ∧ x.f0.f1.length ≤ c1 ∧ k96.C w A1 x.f0.f1.length x.f0.f1 ∧ x.f1.f1.length ≤ c3 ∧ k96.C w A3 x.f1.f1.length x.f1.f1 := by
  obtain ⟨A1, c1, A3, c3, hq, h⟩ := k44_open h
  exact ⟨A1, c1, A3, c3, Array.ext' hq, h⟩
theorem open51 {x : S44 × S44} {cs : Array Value} (h : (Kd.pair k44 k44).K w x cs.toList) : ∃ A1 c1 A3 c3 A5 c5 A7 c7, cs = #[.int .i64 x.1.f0.f0, .slice A1 x.1.f0.f1.length c1, .int .i64 x.1.f1.f0, .slice A3 x.1.f1.f1.length c3, .int .i64 x.2.f0.f0, .slice A5 x.2.f0.f1.length c5, .int .i64 x.2.f1.f0, .slice A7 x.2.f1.f1.length c7] ∧
    (x.1.f0.f1.length ≤ c1 ∧ k96.C w A1 x.1.f0.f1.length x.1.f0.f1 ∧ x.1.f1.f1.length ≤ c3 ∧ k96.C w A3 x.1.f1.f1.length x.1.f1.f1) ∧ (x.2.f0.f1.length ≤ c5 ∧ k96.C w A5 x.2.f0.f1.length x.2.f0.f1 ∧ x.2.f1.f1.length ≤ c7 ∧ k96.C w A7 x.2.f1.f1.length x.2.f1.f1) := by
  obtain ⟨_, _, hq, h1, h2⟩ := h
  obtain ⟨A1, c1, A3, c3, rfl, h3⟩ := k44_open h1
  obtain ⟨A5, c5, A7, c7, rfl, h4⟩ := k44_open h2
  exact ⟨A1, c1, A3, c3, A5, c5, A7, c7, Array.ext' hq, h3, h4⟩
theorem open60 {x : List Int × List S44} {cs : Array Value} (h : (Kd.pair (Kd.slice 3 (Kd.int .i64)) (Kd.slice 44 k44)).K w x cs.toList) : ∃ A0 c0 A1 c1, cs = #[.slice A0 x.1.length c0, .slice A1 x.2.length c1] ∧ x.1.length ≤ c0 ∧ (Kd.int .i64).C w A0 x.1.length x.1 ∧ x.2.length ≤ c1 ∧ k44.C w A1 x.2.length x.2 := by
  obtain ⟨_, _, hq, ⟨A0, c0, rfl, h1, h2⟩, ⟨A1, c1, rfl, h3, h4⟩⟩ := h
  exact ⟨A0, c0, A1, c1, Array.ext' hq, h1, h2, h3, h4⟩
end
end Go.Proofs.Ytegejpcglabhbaa.G
