/- A part of this claim's proof: texts of its author, and printed ones, packed by a program of its author's. -/
import Derived.Test.YtegejpcglabhbaaCe4
namespace Go.Proofs.Ytegejpcglabhbaa.G
open Go.RowKit Go.Proofs.YtegejpcglabhbaaW.PrintWords Go.Proofs.YtegejpcglabhbaaW.PrintLast Go.Proofs.YtegejpcglabhbaaW.PrintMore
def belowB (n : Int) (l : List S96) : Bool := l.all fun v => decide (v.f0 < n)
def fitsB (n : Int) (x : S44) : Bool :=
 lvl x.f0.f0 x.f0.f1 && (lvl x.f1.f0 x.f1.f1 && (decide (x.f1.f1.length ≤ 1) && ((!(decide (x.f1.f1.length = 1) && decide (x.f1.f0 ≠ 0))) && (belowB n x.f0.f1 && belowB n x.f1.f1))))
set_option maxHeartbeats 1000000 in
set_option maxRecDepth 100000 in
theorem fits_any (n : Int) (x : S44) (A1 : Option Addr) (c1 : Nat) (A3 : Option Addr) (c3 : Nat) (w : World) (hr1 : Kd.C k96 w A1 x.f0.f1.length x.f0.f1) (hc1 : x.f0.f1.length ≤ c1) (hr3 : Kd.C k96 w A3 x.f1.f1.length x.f1.f1) (hc3 : x.f1.f1.length ≤ c3) :
  Calls Try.prog 53 #[.int .i64 n, .agg #[.int .i64 x.f0.f0, .slice A1 x.f0.f1.length c1, .int .i64 x.f1.f0, .slice A3 x.f1.f1.length c3]] w fun e w' => e = .returned (.bool (fitsB n x)) ∧ Below w.heap.size w w' := by
 have hu44 := Try.underlying44
 have hu41 := Try.underlying41
 have HR1 := Aside0.mk hr1
 have HC1 := Aside0.mk hc1
 have HR3 := Aside0.mk hr3
 have HC3 := Aside0.mk hc3
 clear hr1 hc1 hr3 hc3
 go_enter Try.func53, Try.ntmps53
 go_wp2_with (first | ((with_reducible refine gate_dst (N := 3) rfl ?_); refine box_event ?hg (N := 3) ?hd (cs := #[.int .i64 x.f0.f0, .slice A1 x.f0.f1.length c1, .int .i64 x.f1.f0, .slice A3 x.f1.f1.length c3]) (t := 44) ?hr ?_; (case hd => rfl); (case hg => rfl); (case hr => first | (go_simp; done) | (go_simp; rfl)); intro gb hg w1 hbox hb; have BK := Aside0.mk hbox; have HB := Aside0.mk hb; have GE := Aside0.mk (show w.heap.size ≤ gb by omega); clear hg hbox hb; have z0 := (blk_cell BK.out 0).trans rfl; have z1 := (blk_cell BK.out 1).trans rfl; have z2 := (blk_cell BK.out 2).trans rfl; have z3 := (blk_cell BK.out 3).trans rfl))
 refine (level_Valid_calls _ _ _ _ _ (Kd.C_below HR1.out HB.out) HC1.out).mono ?_
 rintro e w2 ⟨rfl, hb⟩
 clear z0 z1 z2 z3
 have BK := Aside0.mk (blk_below BK.out hb)
 have HB := Aside0.mk (below_step HB.out hb)
 clear hb
 have z0 := (blk_cell BK.out 0).trans rfl
 have z1 := (blk_cell BK.out 1).trans rfl
 have z2 := (blk_cell BK.out 2).trans rfl
 have z3 := (blk_cell BK.out 3).trans rfl
 have F := Aside0.mk (show fitsB n x = (lvl x.f0.f0 x.f0.f1 && (lvl x.f1.f0 x.f1.f1 && (decide (x.f1.f1.length ≤ 1) && ((!(decide (x.f1.f1.length = 1) && decide (x.f1.f0 ≠ 0))) && (belowB n x.f0.f1 && belowB n x.f1.f1))))) from rfl)
 cases b1 : lvl x.f0.f0 x.f0.f1
 ·rw [b1, Bool.false_and] at F
  go_wp2
  go_ret
  exact ⟨ret_bool F.out.symm, HB.out⟩
 rw [b1, Bool.true_and] at F
 clear b1
 go_wp2_with (fail)
 refine (level_Valid_calls _ _ _ _ _ (Kd.C_below HR3.out HB.out) HC3.out).mono ?_
 rintro e w3 ⟨rfl, hb⟩
 clear z0 z1 z2 z3
 have BK := Aside0.mk (blk_below BK.out hb)
 have HB := Aside0.mk (below_step HB.out hb)
 clear hb
 have z0 := (blk_cell BK.out 0).trans rfl
 have z1 := (blk_cell BK.out 1).trans rfl
 have z2 := (blk_cell BK.out 2).trans rfl
 have z3 := (blk_cell BK.out 3).trans rfl
 cases b2 : lvl x.f1.f0 x.f1.f1
 ·rw [b2, Bool.false_and] at F
  go_wp2
  go_ret
  exact ⟨ret_bool F.out.symm, HB.out⟩
 rw [b2, Bool.true_and] at F
 clear b2
 by_cases b3 : x.f1.f1.length ≤ 1
 case neg =>
  rw [decide_eq_false b3, Bool.false_and] at F
  go_wp2
  go_ret
  exact ⟨ret_bool F.out.symm, HB.out⟩
 rw [decide_eq_true b3, Bool.true_and] at F
 have b3' : decide (1 < (x.f1.f1.length : Int)) = false := decide_eq_false (by omega)
 clear b3
 by_cases b4 : x.f1.f1.length = 1
 case' pos =>
  have b4' : ((x.f1.f1.length : Int) == 1) = true := beq_iff_eq.mpr (by omega)
  rw [decide_eq_true b4, Bool.true_and] at F
  clear b4
  by_cases b5 : x.f1.f0 = 0
  case' neg =>
   have b5' : (x.f1.f0 != 0) = true := bne_iff_ne.mpr b5
   rw [decide_eq_true b5, Bool.not_true, Bool.false_and] at F
   clear b5
   go_wp2
   go_ret
   exact ⟨ret_bool F.out.symm, HB.out⟩
  have b5' : (x.f1.f0 != 0) = false := bne_eq_false_iff_eq.mpr b5
  rw [decide_eq_false (by simpa using b5), Bool.not_false, Bool.true_and] at F
  clear b5
 case' neg =>
  have b4' : ((x.f1.f1.length : Int) == 1) = false := beq_eq_false_iff_ne.mpr (by omega)
  rw [decide_eq_false b4, Bool.false_and, Bool.not_false, Bool.true_and] at F
  clear b4
 all_goals
  go_wp2
  have HB := Aside0.mk (below_alloc HB.out (.cells #[.int .i64 x.f0.f0, .slice A1 x.f0.f1.length c1, .int .i64 x.f1.f0, .slice A3 x.f1.f1.length c3] 41))
  have BS := Aside0.mk (blk_new w3 (.cells #[.int .i64 x.f0.f0, .slice A1 x.f0.f1.length c1, .int .i64 x.f1.f0, .slice A3 x.f1.f1.length c3] 41))
  generalize w3.alloc (.cells #[.int .i64 x.f0.f0, .slice A1 x.f0.f1.length c1, .int .i64 x.f1.f0, .slice A3 x.f1.f1.length c3] 41) = w4 at HB BS ⊢
  generalize w3.heap.size = gs at BS ⊢
  go_loopg [45] 2 (fun kq v45 w' => ∃ j : Nat, v45 = .int .i64 (j : Int) ∧ Aside0 (kq + j = 2) ∧ Aside0 (0 < j → belowB n x.f0.f1 = true) ∧ Aside0 (1 < j → belowB n x.f1.f1 = true) ∧ Aside0 (w'.heap[gs]? = some (.cells #[.int .i64 x.f0.f0, .slice A1 x.f0.f1.length c1, .int .i64 x.f1.f0, .slice A3 x.f1.f1.length c3] 41 (0, 0))) ∧ Aside0 (Below w.heap.size w w'))
  case atStart => exact ⟨0, rfl, ⟨rfl⟩, ⟨by omega⟩, ⟨by omega⟩, BS, HB⟩
  case round =>
   clear BS HB
   obtain ⟨j, rfl, HJ, HX, HY, BS, HB⟩ := hrel
   have hj : j = 0 ∨ j = 1 ∨ j = 2 := by have := HJ.out; omega
   by_cases hj2 : j < 2
   case neg =>
    have hx := HX.out (by omega)
    have hy := HY.out (by omega)
    have hj3 : (2 : Int) ≤ (j : Int) := by omega
    have F := Aside0.mk (show fitsB n x = true by rw [F.out, hx, hy]; rfl)
    clear hj hx hy
    go_wp2
    go_ret
    exact ⟨ret_bool F.out.symm, HB.out⟩
   case pos =>
    obtain ⟨y, A, cc, hy0, hy1, hR, hC, hnext⟩ : ∃ (y : S41) (A : Option Addr) (cc : Nat), wr.cell? ⟨gs, j * 2, none⟩ = some (.int .i64 y.f0) ∧ wr.cell? ⟨gs, j * 2 + 1, none⟩ = some (.slice A y.f1.length cc) ∧ Kd.C k96 w A y.f1.length y.f1 ∧ y.f1.length ≤ cc ∧
      ((belowB n y.f1 = true → (0 < j + 1 → belowB n x.f0.f1 = true) ∧ (1 < j + 1 → belowB n x.f1.f1 = true)) ∧ (belowB n y.f1 = false → fitsB n x = false)) := by
     have hx := HX.out
     rcases hj with rfl | rfl | rfl
     ·exact ⟨x.f0, A1, c1, (blk_cell BS.out 0).trans rfl, (blk_cell BS.out 1).trans rfl, HR1.out, HC1.out, fun h => ⟨fun _ => h, by omega⟩, fun h => by rw [F.out, h]; rfl⟩
     ·exact ⟨x.f1, A3, c3, (blk_cell BS.out 2).trans rfl, (blk_cell BS.out 3).trans rfl, HR3.out, HC3.out, fun h => ⟨fun _ => hx (by omega), fun _ => h⟩, fun h => by rw [F.out, h, Bool.and_false]⟩
     ·omega
    have HR := Aside0.mk hR
    have HC := Aside0.mk hC
    have HN := Aside0.mk hnext
    have hjb : decide ((j : Int) < 2) = true := decide_eq_true (by omega)
    clear hR hC hnext hj HX HY
    go_wp2
    clear hjb hy0 hy1
    have BS := Aside0.mk (blk_alloc BS.out (.cells #[.int .i64 y.f0, .slice A y.f1.length cc] 41))
    have HB := Aside0.mk (below_alloc HB.out (.cells #[.int .i64 y.f0, .slice A y.f1.length cc] 41))
    generalize wr.alloc (.cells #[.int .i64 y.f0, .slice A y.f1.length cc] 41) = w5 at BS HB ⊢
    generalize wr.heap.size = g6
    have hm : y.f1.length ≤ 9223372036854775807 := HR.out.2.1
    have HJ2 := Aside0.mk hj2
    clear hj2
    go_loopg [52] y.f1.length (fun kq v52 w' => ∃ i : Nat, v52 = .int .i64 (i : Int) ∧ Aside0 (kq + i = y.f1.length) ∧ Aside0 (belowB n (y.f1.drop i) = belowB n y.f1) ∧ Aside0 (w'.heap[gs]? = some (.cells #[.int .i64 x.f0.f0, .slice A1 x.f0.f1.length c1, .int .i64 x.f1.f0, .slice A3 x.f1.f1.length c3] 41 (0, 0))) ∧ Aside0 (Below w.heap.size w w'))
    case atStart => exact ⟨0, rfl, ⟨rfl⟩, ⟨rfl⟩, BS, HB⟩
    case round =>
     clear BS HB
     obtain ⟨i, rfl, HI, HD, BS, HB⟩ := hrel
     by_cases hlt : i < y.f1.length
     ·have HE := Aside0.mk (show belowB n (y.f1.drop i) = (decide ((rd_T96 y.f1 i).f0 < n) && belowB n (y.f1.drop (i + 1))) by rw [dropLVar hlt]; rfl)
      obtain ⟨ad, e, h0, h1⟩ := at_T96 HR.out (i : Int) (by omega) (by omega)
      cases e
      replace h0 := (HB.out.cell (World.block_lt_of_cell? w _ h0)).trans h0
      replace h1 := (HB.out.cell (World.block_lt_of_cell? w _ h1)).trans h1
      simp only [Int.toNat_natCast] at h0 h1
      have hu96 := Try.underlying96
      by_cases hn : n ≤ (rd_T96 y.f1 i).f0
      ·have HF := Aside0.mk (show fitsB n x = false from HN.out.2 (by rw [← HD.out, HE.out, decide_eq_false (by omega)]; rfl))
       go_wp2
       go_ret
       exact ⟨ret_bool HF.out.symm, below_alloc HB.out _⟩
      ·have HF := Aside0.mk (show belowB n (y.f1.drop (i + 1)) = belowB n y.f1 by rw [← HD.out, HE.out, decide_eq_true (by omega), Bool.true_and])
       have BS := Aside0.mk (blk_alloc BS.out (.cells #[.int .i64 (rd_T96 y.f1 i).f0, .int .i64 (rd_T96 y.f1 i).f1] 96))
       have HB := Aside0.mk (below_alloc HB.out (.cells #[.int .i64 (rd_T96 y.f1 i).f0, .int .i64 (rd_T96 y.f1 i).f1] 96))
       go_wp2
       go_roundg (y.f1.length - i - 1)
       case measure => have := HI.out; omega
       case rel => exact ⟨i + 1, by go_num, ⟨by omega⟩, HF, BS, HB⟩
     ·have HF := Aside0.mk (show belowB n y.f1 = true by rw [← HD.out, List.drop_eq_nil_of_le (by omega)]; rfl)
      have hj2 := HJ2.out
      go_wp2
      go_roundg (2 - j - 1)
      case measure => have := HJ.out; omega
      case rel => exact ⟨j + 1, by go_num, ⟨by omega⟩, ⟨(HN.out.1 HF.out).1⟩, ⟨(HN.out.1 HF.out).2⟩, BS, HB⟩
theorem valid1 (b : Nat) (n : Int) (w : World) (hb : b < w.heap.size) (hc : w.cell? ⟨b, 0, none⟩ = some (.int .i64 n)) : PredLCon 52 #[.pointer (some ⟨b, 0, none⟩)] (fun x => !fitsB n x) w := by
 intro x A1 c1 A3 c3 W hB l1 g1 l3 g3
 have h := (hB.cell (p := ⟨b, 0, none⟩) hb).trans hc
 have hlt : b < W.heap.size := Nat.lt_of_lt_of_le hb hB.size
 have hu := Try.underlying44
 have G1 := Aside0.mk g1
 have G3 := Aside0.mk g3
 have L1 := Aside0.mk l1
 have L3 := Aside0.mk l3
 clear hB hc hb g1 g3 l1 l3
 go_enter Try.func52, Try.ntmps52
 go_wp2_with (fail)
 refine (fits_any n x A1 c1 A3 c3 _ (Kd.C_alloc G1.out _) L1.out (Kd.C_alloc G3.out _) L3.out).mono ?_
 rintro e w' ⟨rfl, hb⟩
 have HB := Aside0.mk (below_step ((Below.refl _ _).alloc (Nat.le_refl _) _) hb)
 clear hb h hlt
 go_wp2
 go_ret
 exact ⟨rfl, HB.out⟩
def validB (n : Int) (l : List S44) : Bool := decide (0 ≤ n) && (decide (n ≤ 1200) && (decide (l.length ≤ 3000) && l.all (fitsB n)))
def graph_Valid.f (a0 : Int) (l1 : List S44) : Option Bool := some (validB a0 l1)
set_option maxHeartbeats 1000000 in
theorem graph_Valid.calls (a0 : Int) (A1 : Option Addr) (c1 : Nat) (l1 : List (S44)) (r : Bool) (w : World) (hr1 : Kd.C k44 w A1 l1.length l1) (hc1 : l1.length ≤ c1) (h : graph_Valid.f a0 l1 = some r) :
  Calls Try.prog 24 #[.int .i64 a0, .slice A1 l1.length c1] w fun e w' => e = .returned (.bool r) ∧ Below w.heap.size w w' := by
 obtain rfl := Option.some.inj h
 clear h
 have HR := Aside0.mk hr1
 have HC := Aside0.mk hc1
 clear hr1 hc1
 have hm : l1.length ≤ 9223372036854775807 := HR.out.2.1
 have F := Aside0.mk (show validB a0 l1 = (decide (0 ≤ a0) && (decide (a0 ≤ 1200) && (decide (l1.length ≤ 3000) && l1.all (fitsB a0)))) from rfl)
 by_cases h1 : a0 < 0
 ·rw [decide_eq_false (by omega), Bool.false_and] at F
  go_enter Try.func24, Try.ntmps24
  go_wp2
  go_ret
  exact ⟨ret_bool F.out.symm, (Below.refl _ _).alloc (Nat.le_refl _) _⟩
 rw [decide_eq_true (by omega), Bool.true_and] at F
 by_cases h2 : 1200 < a0
 ·rw [decide_eq_false (by omega), Bool.false_and] at F
  go_enter Try.func24, Try.ntmps24
  go_wp2
  go_ret
  exact ⟨ret_bool F.out.symm, (Below.refl _ _).alloc (Nat.le_refl _) _⟩
 rw [decide_eq_true (by omega), Bool.true_and] at F
 by_cases h3 : 3000 < l1.length
 ·rw [decide_eq_false (by omega), Bool.false_and] at F
  go_enter Try.func24, Try.ntmps24
  go_wp2
  go_ret
  exact ⟨ret_bool F.out.symm, (Below.refl _ _).alloc (Nat.le_refl _) _⟩
 rw [decide_eq_true (by omega), Bool.true_and] at F
 go_enter Try.func24, Try.ntmps24
 go_wp2_with (fail)
 refine (hasLCon 52 #[.pointer (some ⟨w.heap.size, 0, none⟩)] (enters_of Try.func52 (by kernel_rfl) rfl) (fun x => !fitsB a0 x) A1 c1 l1 _ (Kd.C_alloc HR.out _) HC.out (valid1 _ a0 _ (by simp) (by simp))).mono ?_
 rintro e w' ⟨rfl, hb⟩
 have HB := Aside0.mk (below_step ((Below.refl _ _).alloc (Nat.le_refl _) _) hb)
 clear hb
 have HF := Aside0.mk (show (!(l1.any fun x => !fitsB a0 x)) = validB a0 l1 by rw [F.out, List.not_any_eq_all_not]; simp)
 generalize (l1.any fun x => !fitsB a0 x) = q at HF ⊢
 go_wp2
 go_ret
 exact ⟨ret_bool HF.out, HB.out⟩
end Go.Proofs.Ytegejpcglabhbaa.G
