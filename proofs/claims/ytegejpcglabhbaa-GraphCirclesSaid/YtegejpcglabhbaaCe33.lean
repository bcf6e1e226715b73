/- A part of this claim's proof: texts of its author, and printed ones, packed by a program of its author's. -/
import Derived.Test.YtegejpcglabhbaaCe25
import Derived.Test.YtegejpcglabhbaaCe32
import Derived.Test.YtegejpcglabhbaaCe3
import Derived.Lib.SliceRun
import Derived.WalkSpells
import Derived.Test.YtegejpcglabhbaaCe23
namespace Go.Proofs.Ytegejpcglabhbaa.G
open Go.RowKit Go.Proofs.YtegejpcglabhbaaW.PrintWords Go.Proofs.YtegejpcglabhbaaW.PrintLast Go.Proofs.YtegejpcglabhbaaW.PrintMore
set_option linter.unusedVariables false
set_option linter.unusedSimpArgs false
theorem ev_eqi (l : List Int) (h : l.length ≤ 1000000) : Ev (fun k => tenetref00_EqInts.f k l l) true := ⟨l.length + 1, fun k hk => eqints_eq l h k hk⟩
def dAt (steps : List Int) (i : Nat) : Int := if i < steps.length ∧ 0 ≤ steps.getD i 0 ∧ steps.getD i 0 ≤ 1000 then steps.getD i 0 else 0
def pre (steps : List Int) : Nat → Int
 | 0 => 0
 | i + 1 => pre steps i + dAt steps i
def link (steps : List Int) (i : Nat) : S44 := cAt i (dAt steps i) ((i + 1 : Nat) : Int) 0
def chain (steps : List Int) (m : Nat) : List S44 := (List.range m).map (link steps)
theorem grown_refl (w : World) (row : Option Nat) : w.grownBy w row := ⟨rfl, rfl, rfl, Nat.le_refl _, fun _ _ _ => rfl⟩
theorem grown_below {a w w1 : World} {row : Option Nat} (h : a.grownBy w row) (hb : Below w.heap.size w w1) : a.grownBy w1 row :=
 ⟨hb.os.trans h.os, hb.tape.trans h.tape, hb.output.trans h.output, Nat.le_trans h.size hb.size, fun i hi hn => (hb.block i (Nat.lt_of_lt_of_le hi h.size)).trans (h.block i hi hn)⟩
theorem grown_set {a w : World} {g : Nat} (h : a.grownBy w (some g)) (j : Nat) (u : Value) : a.grownBy (w.setCell ⟨g, j, none⟩ u) (some g) :=
 ⟨h.os, h.tape, h.output, by simpa [World.setCell] using h.size, fun i hi hne => (Below.heap_setCell w ⟨g, j, none⟩ u i (by rintro rfl; exact hne rfl)).trans (h.block i hi hne)⟩
theorem below_grown {w w1 w2 : World} {g : Nat} (h : Below w.heap.size w w1) (hg : w1.grownBy w2 (some g)) (hge : w.heap.size ≤ g) : Below w.heap.size w w2 :=
 ⟨hg.os.trans h.os, hg.tape.trans h.tape, hg.output.trans h.output, Nat.le_trans h.size hg.size, fun i hi => (hg.block i (Nat.lt_of_lt_of_le hi h.size) (fun e => by have := Option.some.inj e; omega)).trans (h.block i hi)⟩
theorem R_clear {base : Nat} {ok : Nat → Prop} {g n cap : Nat} : ∀ (m i : Nat) (w w0 : World) (x : List Int), (Kd.int .i64).R 3 w base ok (.slice (some ⟨g, 0, none⟩) n cap) x → w0.grownBy w (some g) →
  ∃ y, y.length = x.length ∧ y.take i = x.take i ∧ (Kd.int .i64).R 3 (w.setCells g i (List.replicate m (.int .i64 0))) base ok (.slice (some ⟨g, 0, none⟩) n cap) y ∧ w0.grownBy (w.setCells g i (List.replicate m (.int .i64 0))) (some g)
 | 0, i, w, w0, x, h, hg => ⟨x, rfl, rfl, h, hg⟩
 | m + 1, i, w, w0, x, h, hg => by
  have h1 := (Kd.R_putg h (i : Int) (0 : Int)).1
  rw [Int.toNat_natCast] at h1
  obtain ⟨y, h2, h3, h4, h5⟩ := R_clear m (i + 1) _ w0 _ h1 (grown_set hg i _)
  refine ⟨y, by rw [h2, List.length_set], ?_, h4, h5⟩
  have e : (y.take (i + 1)).take i = ((x.set i 0).take (i + 1)).take i := by rw [h3]
  rw [List.take_take, List.take_take, show min i (i + 1) = i by omega, List.take_set_of_le (by omega)] at e
  exact e
def PredS (S : World → Prop) (g : Nat) (cap : Array Value) (p : Int → Bool) : Prop := ∀ x W, S W → Calls Try.prog g (#[.int .i64 x] ++ cap) W fun e W' => e = .returned (.bool (p x)) ∧ Below W.heap.size W W'
def leftB (p : Int → Bool) (l : List Int) : List Int := l.filter fun x => !p x
theorem leftB_snoc {p : Int → Bool} {l : List Int} {j : Nat} (h : j < l.length) : leftB p (l.take (j + 1)) = if p l[j] = true then leftB p (l.take j) else leftB p (l.take j) ++ [l[j]] := by
 unfold leftB
 rw [List.take_succ_eq_append_getElem h, List.filter_append]
 cases hp : p l[j] <;> simp [hp]
theorem idxB_first {p : Int → Bool} : ∀ (l : List Int) (i : Nat), (idxB p l i = -1 ∧ leftB p l = l) ∨ ∃ (d : Nat) (h : d < l.length), idxB p l i = ((i + d : Nat) : Int) ∧ leftB p (l.take (d + 1)) = l.take d
 | [], i => .inl ⟨rfl, rfl⟩
 | x :: l, i => by
  simp only [idxB]
  by_cases h : p x = true
  ·rw [if_pos h]
   exact .inr ⟨0, by simp, by simp, by simp [leftB, h]⟩
  ·rw [if_neg h]
   have h' : p x = false := by simpa using h
   rcases idxB_first l (i + 1) with ⟨h1, h2⟩ | ⟨d, h1, h2, h3⟩
   ·exact .inl ⟨h1, by unfold leftB at h2 ⊢; simp [h', h2]⟩
   ·exact .inr ⟨d + 1, by simp; omega, by rw [h2]; omega, by unfold leftB at h3 ⊢; simp [h', h3]⟩
theorem S_cells {S : World → Prop} {g : Nat} (hS2 : ∀ W i u, S W → S (W.setCell ⟨g, i, none⟩ u)) : ∀ (vs : List Value) (i : Nat) (W : World), S W → S (W.setCells g i vs)
 | [], i, W, h => h
 | v :: vs, i, W, h => S_cells hS2 vs (i + 1) _ (hS2 W i v h)
set_option maxHeartbeats 4000000 in
set_option maxRecDepth 100000 in
theorem deleteF (S : World → Prop) (g : Nat) (cap : Array Value) (he : ∀ (args : Array Value) (W : World), (callFunc g args).run Try.prog W = .ok (.enter g args) W) (p : Int → Bool) (A : Option Addr) (c : Nat) (l : List Int) (base : Nat) (ok : Nat → Prop) (w : World)
  (hS : S w) (hS1 : ∀ W W', S W → Below W.heap.size W W' → S W') (hS2 : ∀ b, A = some ⟨b, 0, none⟩ → ∀ W i u, S W → S (W.setCell ⟨b, i, none⟩ u)) (hp : PredS S g cap p) (hr : (Kd.int .i64).R 3 w base ok (.slice A l.length c) l) :
  Calls Try.prog 69 #[.slice A l.length c, .func (.func g) #[] cap] w fun e w' => e = .returned (.slice A (leftB p l).length c) ∧ (Kd.int .i64).R 3 w' base ok (.slice A (leftB p l).length c) (leftB p l) ∧ S w' ∧ w.grownBy w' (Value.slice A l.length c).ownBlock := by
 have H := Aside0.mk (idxInt g cap he p A c l w (Kd.R_reads' hr).2.2 (Kd.R_reads' hr).2.1 (fun x W hb => hp x W (hS1 w W hS hb)))
 have HR := Aside0.mk hr
 have HS := Aside0.mk hS
 have HP := Aside0.mk hp
 have H1 := Aside0.mk hS1
 have H2 := Aside0.mk hS2
 have hm : l.length ≤ 9223372036854775807 := (Kd.R_reads' hr).2.2.2.1
 clear hr hS hp hS1 hS2
 rcases idxB_first (p := p) l 0 with ⟨h1, h2⟩ | ⟨i0, hi0, h1, h2⟩
 ·rw [h1] at H
  have HL := Aside0.mk h2
  clear h1 h2
  go_enter Try.func69, Try.ntmps69
  go_wp2_with (fail)
  refine H.out.mono ?_
  rintro e w1 ⟨rfl, hb⟩
  have HB := Aside0.mk hb
  clear hb
  go_wp2
  go_ret
  rw [HL.out]
  exact ⟨rfl, Kd.R_below HR.out HB.out, H1.out _ _ HS.out HB.out, grown_below (grown_refl _ _) HB.out⟩
 ·obtain ⟨b, c2, hv, hbb, hbl, _⟩ := Kd.R_form HR.out (by omega)
  injection hv with hA hn hc
  subst hA
  subst hc
  clear hn hbb hbl
  rw [h1] at H
  have HL := Aside0.mk h2
  have hc := (Kd.R_reads' HR.out).2.1
  rw [Nat.zero_add] at H
  clear h1 h2
  go_enter Try.func69, Try.ntmps69
  go_wp2_with (fail)
  refine H.out.mono ?_
  rintro e w1 ⟨rfl, hb⟩
  have HB := Aside0.mk (grown_below (grown_refl w (some b)) hb)
  have HR1 := Aside0.mk (Kd.R_below HR.out hb)
  have HS1 := Aside0.mk (H1.out _ _ HS.out hb)
  clear hb H HR HS
  have hd0 : ((i0 : Int) == -1) = false := beq_eq_false_iff_ne.2 (by omega)
  go_wp2
  clear hd0
  go_loopg [5, 6] (l.length - (i0 + 1)) (fun kq v5 v6 w' => ∃ (i j : Nat) (x : List Int), v5 = .int .i64 (i : Int) ∧ v6 = .int .i64 (j : Int) ∧ Aside0 (kq + j = l.length) ∧ Aside0 (i < j) ∧ Aside0 (x.length = l.length) ∧ Aside0 (x.take i = leftB p (l.take j)) ∧ Aside0 (i = (leftB p (l.take j)).length) ∧ Aside0 (x.drop j = l.drop j) ∧
   Aside0 ((Kd.int .i64).R 3 w' base ok (.slice (some ⟨b, 0, none⟩) l.length c) x) ∧ Aside0 (S w') ∧ Aside0 (w.grownBy w' (some b)))
  case atStart => exact ⟨i0, i0 + 1, l, rfl, by go_num, ⟨by omega⟩, ⟨by omega⟩, ⟨rfl⟩, ⟨HL.out.symm⟩, ⟨by rw [HL.out, List.length_take]; omega⟩, ⟨rfl⟩, HR1, HS1, HB⟩
  case round =>
   clear HR1 HS1 HB HL
   obtain ⟨i, j, x, rfl, rfl, HK, HIJ, HX, HT, HI, HD, HR, HS, HB⟩ := hrel
   have hij := HIJ.out
   have hxl := HX.out
   by_cases hlt : j < l.length
   ·have hxj : x[j]? = l[j]? := by
     have := congrArg (fun y : List Int => y[0]?) HD.out
     simpa using this
    have hrd : rd x (j : Int) = l[j] := by
     unfold rd
     rw [Int.toNat_natCast, List.getD_eq_getElem?_getD, hxj, List.getElem?_eq_getElem hlt]
     rfl
    obtain ⟨q0, f0⟩ := Kd.R_celln 0 HR.out (j : Int) (by omega) (by omega)
    replace q0 : wr.cell? ⟨b, (j : Int).toNat, none⟩ = some (.int .i64 (rd x (j : Int))) := q0
    rw [hrd, Int.toNat_natCast] at q0
    rw [Int.toNat_natCast] at f0
    have HSN := Aside0.mk (leftB_snoc (p := p) hlt)
    have HDR := Aside0.mk (show x.drop (j + 1) = l.drop (j + 1) by rw [← List.tail_drop, ← List.tail_drop, HD.out])
    generalize l[j] = v at q0 HSN
    clear hxj hrd
    go_wp2_with (fail)
    refine (HP.out v _ HS.out).mono ?_
    rintro e w2 ⟨rfl, hb⟩
    have HR2 := Aside0.mk (Kd.R_below HR.out hb)
    have HS2 := Aside0.mk (H1.out _ _ HS.out hb)
    have HB2 := Aside0.mk (grown_below HB.out hb)
    clear hb q0 f0 HR HS HB
    cases hpv : p v with
    | true =>
     have HE := Aside0.mk (show leftB p (l.take (j + 1)) = leftB p (l.take j) by rw [HSN.out, if_pos hpv])
     clear hpv HSN
     go_wp2
     go_roundg (l.length - j - 1)
     case measure => have := HK.out; omega
     case rel => exact ⟨i, j + 1, x, rfl, by go_num, ⟨by omega⟩, ⟨by omega⟩, HX, ⟨by rw [HE.out]; exact HT.out⟩, ⟨by rw [HE.out]; exact HI.out⟩, HDR, HR2, HS2, HB2⟩
    | false =>
     have HE := Aside0.mk (show leftB p (l.take (j + 1)) = leftB p (l.take j) ++ [v] by rw [HSN.out, if_neg (by rw [hpv]; decide)])
     obtain ⟨q1, f1⟩ := Kd.R_celln 0 HR2.out (i : Int) (by omega) (by omega)
     have HR3 := Aside0.mk (Kd.R_putg HR2.out (i : Int) v).1
     simp only [Int.toNat_natCast] at q1 f1 HR3
     have HS3 := Aside0.mk (H2.out b rfl _ i (.int .i64 v) HS2.out)
     have HB3 := Aside0.mk (grown_set HB2.out i (.int .i64 v))
     clear hpv HSN HR2 HS2 HB2
     go_wp2
     go_roundg (l.length - j - 1)
     case measure => have := HK.out; omega
     case rel => exact ⟨i + 1, j + 1, x.set i v, by go_num, by go_num, ⟨by omega⟩, ⟨by omega⟩, ⟨by rw [List.length_set]; exact hxl⟩, ⟨by
       rw [HE.out, ← HT.out, List.take_succ_eq_append_getElem (by rw [List.length_set]; omega), List.take_set_of_le (Nat.le_refl _), List.getElem_set_self]⟩, ⟨by rw [HE.out, List.length_append, ← HI.out]; rfl⟩, ⟨by rw [List.drop_set_of_lt (by omega)]; exact HDR.out⟩, HR3, HS3, HB3⟩
   ·have hj : j = l.length := by have := HK.out; omega
    have hil : i < l.length := by omega
    have HE := Aside0.mk (show x.take i = leftB p l by rw [HT.out, hj, List.take_length])
    have HI2 := Aside0.mk (show i = (leftB p l).length by rw [HI.out, hj, List.take_length])
    obtain ⟨y, hy1, hy2, hy3, hy4⟩ := R_clear (l.length - i) i wr w x HR.out HB.out
    have HY := Aside0.mk (Kd.R_take hy3 (m := i) (by omega))
    rw [hy2] at HY
    have HG := Aside0.mk hy4
    have HS3 := Aside0.mk (S_cells (H2.out b rfl) (List.replicate (l.length - i) (.int .i64 0)) i wr HS.out)
    have hcl : ∀ ty, (Builtin.clear_ #[25] ty #[.slice (some ⟨b, i, none⟩) (l.length - i) (c - i)]).run Try.prog wr = .ok (.tuple #[]) (wr.setCells b i (List.replicate (l.length - i) (.int .i64 0))) := fun ty =>
     Lib.run_clear_slice wr 25 3 ty (.int .i64 0) Try.underlying25 (fun W => by kernel_rfl) rfl rfl b i (l.length - i) (c - i) (by omega)
      (fun t ht => by have := (Kd.R_celln 0 HR.out ((i + t : Nat) : Int) (by omega) (by omega)).1; rw [Int.toNat_natCast] at this; rw [this]; rfl)
      (fun t ht => by have := (Kd.R_celln 0 HR.out ((i + t : Nat) : Int) (by omega) (by omega)).2; rw [Int.toNat_natCast] at this; exact this)
    have hci : ¬ c = i := by omega
    have hic : i ≤ c := by omega
    clear hy1 hy2 hy3 hy4 HR HB HS HT HI HD HX hj
    generalize wr.setCells b i (List.replicate (l.length - i) (.int .i64 0)) = w9 at HY HG HS3 hcl
    go_wp2
    go_ret
    rw [← HI2.out, ← HE.out]
    exact ⟨rfl, HY.out, HS3.out, HG.out⟩
theorem below_grownO {w w1 w2 : World} {row : Option Nat} (h : Below w.heap.size w w1) (hg : w1.grownBy w2 row) (hge : ∀ g, row = some g → w.heap.size ≤ g) : Below w.heap.size w w2 :=
 ⟨hg.os.trans h.os, hg.tape.trans h.tape, hg.output.trans h.output, Nat.le_trans h.size hg.size, fun i hi => (hg.block i (Nat.lt_of_lt_of_le hi h.size) (fun e => by have := hge i e.symm; omega)).trans (h.block i hi)⟩
def minL (k n : Nat) (l : List S44) : Nat → List Int → Option (List Int)
 | 0, left => some left
 | i + 1, left => (followsN k n l (leftB (fun x => x == (i : Int)) left) (rd_T44 l (i : Int))).bind fun b => minL k n l i (if b = true then leftB (fun x => x == (i : Int)) left else left)
theorem minL.mono (n : Nat) (l : List S44) (k : Nat) : ∀ i left, LeO (minL k n l i left) (minL (k + 1) n l i left)
 | 0, left => LeO.refl _
 | i + 1, left => LeO.bind (askL.mono _ _ _ _) fun _ => minL.mono n l k i _
def minS (k n : Nat) (l : List S44) : Option (List Int × Int) := (solvedN k n l).bind fun s => if s.2 = 0 then (minL k n l l.length (upTo l.length)).map fun r => (r, 0) else some ([], s.2)
def graph_Minimal.f (k : Nat) (a0 : Int) (l1 : List S44) : Option (List Int × Int) := if validB a0 l1 = true then if 200 < l1.length then some ([], 2) else minS k a0.toNat l1 else some ([], 4)
theorem graph_Minimal.mono : ∀ a0 l1 k, LeO (graph_Minimal.f k a0 l1) (graph_Minimal.f (k + 1) a0 l1) := fun _ _ _ =>
 LeO.ite (LeO.ite (LeO.refl _) (LeO.bind (solvedN.mono _ _ _) fun _ => LeO.ite (LeO.map _ (minL.mono _ _ _ _ _)) (LeO.refl _))) (LeO.refl _)
end Go.Proofs.Ytegejpcglabhbaa.G
