/- Cells laid one by one over a row of their number are the row. No condition. -/
import Derived.Test.YtiepinfcndefhaaSk
namespace Go.Proofs.Ytiepinfcndefhaa.S
open Go.RowKit
set_option linter.unusedVariables false
set_option linter.unusedSimpArgs false

theorem lay_list : ∀ (l : List Value) (i : Nat) (z : Array Value), i + l.length = z.size → (l.zipIdx i).foldl (fun (cs : Array Value) (x : Value × Nat) => cs.setIfInBounds x.2 x.1) z = (z.toList.take i ++ l).toArray
  | [], i, z, h => by
    simp only [List.length_nil, Nat.add_zero] at h
    simp only [List.zipIdx_nil, List.foldl_nil, List.append_nil]
    rw [List.take_of_length_le (by simp; omega), Array.toArray_toList]
  | v :: l, i, z, h => by
    simp only [List.length_cons] at h
    simp only [List.zipIdx_cons, List.foldl_cons]
    rw [lay_list l (i + 1) _ (by simp; omega)]
    congr 1
    rw [Array.toList_setIfInBounds]
    apply List.ext_getElem?
    intro n
    simp only [List.getElem?_append, List.getElem?_take, List.getElem?_set, List.length_take, List.length_set, Array.length_toList, List.getElem?_cons]
    by_cases h1 : n < i
    · simp [h1, show n < i + 1 by omega, show n < min i z.size by omega, show n < min (i + 1) z.size by omega, show ¬ i = n by omega]
    · by_cases h2 : n = i
      · subst h2
        simp [show n < min (n + 1) z.size by omega, show ¬ n < min n z.size by omega, show n < z.size by omega, show n - min n z.size = 0 by omega]
      · simp [h1, show ¬ n < min (i + 1) z.size by omega, show ¬ n < min i z.size by omega, show ¬ (n - min i z.size = 0) by omega, show n - min (i + 1) z.size = n - min i z.size - 1 by omega]
theorem lay_all {z cm : Array Value} (h : z.size = cm.size) : Array.foldl (fun (cs : Array Value) (x : Value × Nat) => cs.setIfInBounds x.2 x.1) z cm.zipIdx 0 cm.size = cm := by
  have e : cm.size = cm.zipIdx.size := by simp
  rw [e, ← Array.foldl_toList, Array.toList_zipIdx, lay_list _ 0 z (by simp [h])]
  simp
theorem lay_n {z cm : Array Value} {n : Nat} (hn : cm.size = n) (h : z.size = n) : Array.foldl (fun (cs : Array Value) (x : Value × Nat) => cs.setIfInBounds x.2 x.1) z cm.zipIdx 0 n = cm := by
  subst hn
  exact lay_all h
end Go.Proofs.Ytiepinfcndefhaa.S
