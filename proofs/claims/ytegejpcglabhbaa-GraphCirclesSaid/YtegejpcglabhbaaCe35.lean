/- A part of this claim's proof: texts of its author, and printed ones, packed by a program of its author's. -/
import Derived.Test.YtegejpcglabhbaaCe33
import Derived.Test.YtegejpcglabhbaaCe34
import Derived.Sort.OwnSortedInts
import Derived.Lib.SlicesCompact
import Derived.Lib.RowBridge
namespace Go.Proofs.Ytegejpcglabhbaa.G
open Go.RowKit Go.Proofs.YtegejpcglabhbaaW.PrintWords Go.Proofs.YtegejpcglabhbaaW.PrintLast Go.Proofs.YtegejpcglabhbaaW.PrintMore
set_option linter.unusedVariables false
set_option linter.unusedSimpArgs false
def sortI (zs : List Int) : List Int := zs.mergeSort fun x y => decide (x ≤ y)
def compI (zs : List Int) : List Int := Lib.compact zs
theorem ownI {g cap : Nat} {zs : List Int} {base : Nat} {w : World} (h : Kd.R (Kd.int .i64) 3 w base (fun _ => True) (.slice (some ⟨g, 0, none⟩) zs.length cap) zs) :
  ∃ cur, base ≤ g ∧ w.heap[g]? = some (.cells cur 3 (0, 0)) ∧ zs.length ≤ cap ∧ cap ≤ maxLen ∧ cur.size = cap * 1 ∧ cur.toList.take zs.length = zs.map (Value.int .i64) := by
 have ho := Kd.own_of_R (enc := Value.int .i64) (h1 := fun _ => rfl) h
 rcases ho.2 with ⟨h0, _⟩ | ⟨g', cap', cur, hv, hbase, hb, h1, h2, h3, h4⟩
 ·cases h0
 ·injection hv with ha _ hc
  injection ha with ha
  injection ha with hg
  subst hg; subst hc
  exact ⟨cur, hbase, hb, h1, h2, h3, by rw [Nat.mul_one] at h4; exact h4⟩
theorem RI_of {g cap n m : Nat} {zs : List Int} {base : Nat} {w : World} (h : w.ownsRow base 3 1 (.slice (some ⟨g, 0, none⟩) n cap) n (zs.map (Value.int .i64))) (hm : m ≤ n) (hn : zs.length = n) : Kd.R (Kd.int .i64) 3 w base (fun _ => True) (.slice (some ⟨g, 0, none⟩) (zs.take m).length cap) (zs.take m) := by
 have h2 := own_take h hm
 have e : (zs.take m).length = m := by rw [List.length_take]; omega
 refine Kd.R_of_own ?_ (fun _ _ => trivial)
 rw [e]
 have e2 : (zs.map (Value.int .i64)).take (m * 1) = encs (Value.int .i64) (zs.take m) := by rw [Nat.mul_one]; unfold encs; rw [List.map_take]
 rw [← e2]
 exact h2
theorem grow_none (w : World) : Go.Sort.grow w #[] = w := by simp [Go.Sort.grow]
theorem sort_any (g cap : Nat) (zs : List Int) (base : Nat) (w : World) (h : Kd.R (Kd.int .i64) 3 w base (fun _ => True) (.slice (some ⟨g, 0, none⟩) zs.length cap) zs) (hl : zs.length ≤ 4398046511104) :
  Calls Try.prog 95 #[.slice (some ⟨g, 0, none⟩) zs.length cap] w fun e w' => e = .returned (.tuple #[]) ∧ Kd.R (Kd.int .i64) 3 w' base (fun _ => True) (.slice (some ⟨g, 0, none⟩) zs.length cap) (sortI zs) ∧ w.grownBy w' (some g) := by
 obtain ⟨cur, hbase, hb, h1, h2, h3, h4⟩ := ownI h
 refine (Try.slices_Sort_int g 0 cap zs w (holds_of_blockI hb h4) (blk_lt hb) (by omega)).mono ?_
 rintro e w' ⟨rfl, nn, os, rfl⟩
 have hml : (sortI zs).length = zs.length := by unfold sortI; simp
 have ho := ownsRow_sortedI (n := nn) (os := os) (ts := sortI zs) hml hbase hb h1 h2 h3
 have hR := RI_of ho (Nat.le_refl _) hml
 rw [List.take_of_length_le (by omega), hml] at hR
 exact ⟨rfl, hR, grownBy_sortedI _⟩
theorem sort_none (p : Option Addr) (cap : Nat) (w : World) : Calls Try.prog 95 #[.slice p 0 cap] w fun e w' => e = .returned (.tuple #[]) ∧ w' = w := Try.slices_Sort_int_none p cap w
theorem compact_any (g cap : Nat) (zs : List Int) (base : Nat) (w : World) (h : Kd.R (Kd.int .i64) 3 w base (fun _ => True) (.slice (some ⟨g, 0, none⟩) zs.length cap) zs) :
  Calls Try.prog 96 #[.slice (some ⟨g, 0, none⟩) zs.length cap] w fun e w' => e = .returned (.slice (some ⟨g, 0, none⟩) (compI zs).length cap) ∧ Kd.R (Kd.int .i64) 3 w' base (fun _ => True) (.slice (some ⟨g, 0, none⟩) (compI zs).length cap) (compI zs) ∧ w.grownBy w' (some g) := by
 obtain ⟨cur, hbase, hb, h1, h2, h3, h4⟩ := ownI h
 refine (Try.slices_Compact_int g 0 cap zs w (holds_of_blockI hb h4) (by unfold maxLen at h2; omega) h1).mono ?_
 rintro e w' ⟨rfl, q, rfl⟩
 have hc : (compI zs).length ≤ zs.length := Lib.compact_length_le zs
 have hml : (compI zs ++ List.replicate (zs.length - (compI zs).length) 0).length = zs.length := by rw [List.length_append, List.length_replicate]; omega
 have ho := ownsRow_sortedI (n := q) (os := #[]) (ts := compI zs ++ List.replicate (zs.length - (compI zs).length) 0) hml hbase hb h1 h2 h3
 have hR := RI_of ho hc hml
 rw [List.take_left] at hR
 have hg := grownBy_sortedI (w := w) (g := g) (n := q) (os := #[]) (compI zs ++ List.replicate (zs.length - (compI zs).length) 0).toArray
 rw [grow_none] at hR hg
 exact ⟨rfl, hR, hg⟩
theorem compact_none (p : Option Addr) (cap : Nat) (w : World) : Calls Try.prog 96 #[.slice p 0 cap] w fun e w' => e = .returned (.slice p 0 cap) ∧ w' = w := Try.slices_Compact_int_empty p cap w
theorem delete_any (g cap i : Nat) (zs : List Int) (base : Nat) (w : World) (h : Kd.R (Kd.int .i64) 3 w base (fun _ => True) (.slice (some ⟨g, 0, none⟩) zs.length cap) zs) (hi : i < zs.length) :
  Calls Try.prog 80 #[.slice (some ⟨g, 0, none⟩) zs.length cap, .int .i64 (i : Int), .int .i64 ((i : Int) + 1)] w fun e w' => e = .returned (.slice (some ⟨g, 0, none⟩) (zs.take i ++ zs.drop (i + 1)).length cap) ∧ Kd.R (Kd.int .i64) 3 w' base (fun _ => True) (.slice (some ⟨g, 0, none⟩) (zs.take i ++ zs.drop (i + 1)).length cap) (zs.take i ++ zs.drop (i + 1)) ∧ w.grownBy w' (some g) := by
 obtain ⟨cur, hbase, hb, h1, h2, h3, h4⟩ := ownI h
 have hc := Try.slices_Delete_int g 0 cap i (i + 1) zs w (holds_of_blockI hb h4) h1 (by unfold maxLen at h2; omega) (by omega) (by omega)
 rw [show (((i + 1 : Nat) : Int)) = (i : Int) + 1 by omega] at hc
 refine hc.mono ?_
 rintro e w' ⟨rfl, q, rfl⟩
 have hl : (zs.take i ++ zs.drop (i + 1)).length = zs.length - 1 := by rw [List.length_append, List.length_take, List.length_drop]; omega
 have hml : (zs.take i ++ zs.drop (i + 1) ++ List.replicate (i + 1 - i) 0).length = zs.length := by rw [List.length_append, hl, List.length_replicate]; omega
 have ho := ownsRow_sortedI (n := q) (os := #[]) (ts := zs.take i ++ zs.drop (i + 1) ++ List.replicate (i + 1 - i) 0) hml hbase hb h1 h2 h3
 have hR := RI_of ho (m := (zs.take i ++ zs.drop (i + 1)).length) (by omega) hml
 rw [List.take_left] at hR
 have hg := grownBy_sortedI (w := w) (g := g) (n := q) (os := #[]) (zs.take i ++ zs.drop (i + 1) ++ List.replicate (i + 1 - i) 0).toArray
 rw [grow_none] at hR hg
 refine ⟨?_, hR, hg⟩
 rw [hl, show zs.length - (i + 1 - i) = zs.length - 1 by omega]
theorem contains_any (g c : Nat) (zs : List Int) (x : Int) (w : World) (hl : zs.length ≤ 9223372036854775807) (h : ∀ j, j < zs.length → w.cell? ⟨g, j, none⟩ = some (.int .i64 (zs.getD j 0))) :
  Calls Try.prog 82 #[.slice (some ⟨g, 0, none⟩) zs.length c, .int .i64 x] w fun e w' => e = .returned (.bool (zs.contains x)) ∧ w' = w := by
 have hc := Try.slices_Contains_int g 0 zs.length c zs x w (Nat.le_refl _) hl (fun j hj => by rw [Nat.zero_add]; exact h j hj)
 rw [List.take_length] at hc
 exact hc
end Go.Proofs.Ytegejpcglabhbaa.G
