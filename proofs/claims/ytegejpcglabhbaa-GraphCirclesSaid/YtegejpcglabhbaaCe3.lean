/- A part of this claim's proof: texts of its author, and printed ones, packed by a program of its author's. -/
import Derived.Test.YtegejpcglabhbaaCe2
import Derived.Shelf.Abstract
namespace Go.Proofs.Ytegejpcglabhbaa.G
open Go.RowKit Go.Proofs.YtegejpcglabhbaaW.PrintWords Go.Proofs.YtegejpcglabhbaaW.PrintLast Go.Proofs.YtegejpcglabhbaaW.PrintMore
theorem ret_int {k : IntKind} {a b : Int} (h : a = b) : Ending.returned (.int k a) = .returned (.int k b) := by rw [h]
theorem ret_bool {a b : Bool} (h : a = b) : Ending.returned (.bool a) = .returned (.bool b) := by rw [h]
def idxB {α : Type} (p : α → Bool) : List α → Nat → Int
 | [], _ => -1
 | x :: xs, i => if p x = true then (i : Int) else idxB p xs (i + 1)
theorem idxB_any {α : Type} (p : α → Bool) (l : List α) (i : Nat) : decide (0 ≤ idxB p l i) = l.any p := by
 induction l generalizing i with
 | nil => rfl
 | cons x xs ih =>
  simp only [idxB, List.any_cons]
  by_cases h : p x = true
  ·simp [h]
  ·simp [h, ih (i + 1)]
theorem dropLCon {l : List S44} {i : Nat} (hlt : i < l.length) : l.drop i = rd_T44 l i :: l.drop (i + 1) := by
 rw [List.drop_eq_getElem_cons hlt]
 simp [rd_T44, List.getD_eq_getElem?_getD, List.getElem?_eq_getElem hlt]
def PredLCon (g : Nat) (cap : Array Value) (p : S44 → Bool) (w : World) : Prop :=
 ∀ (x : S44) (A1 : Option Addr) (c1 : Nat) (A3 : Option Addr) (c3 : Nat) (W : World), Below w.heap.size w W → x.f0.f1.length ≤ c1 → Kd.C k96 W A1 x.f0.f1.length x.f0.f1 → x.f1.f1.length ≤ c3 → Kd.C k96 W A3 x.f1.f1.length x.f1.f1 → Calls Try.prog g (#[.agg #[.int .i64 x.f0.f0, .slice A1 x.f0.f1.length c1, .int .i64 x.f1.f0, .slice A3 x.f1.f1.length c3]] ++ cap) W fun e W' => e = .returned (.bool (p x)) ∧ Below W.heap.size W W'
set_option maxHeartbeats 1000000 in
set_option maxRecDepth 100000 in
theorem idxLCon (g : Nat) (cap : Array Value) (he : ∀ (args : Array Value) (W : World), (callFunc g args).run Try.prog W = .ok (.enter g args) W) (p : S44 → Bool) (A : Option Addr) (c : Nat) (l : List S44) (w : World) (hr : Kd.C k44 w A l.length l) (hc : l.length ≤ c)
  (hp : PredLCon g cap p w) :
  Calls Try.prog 56 #[.slice A l.length c, .func (.func g) #[] cap] w fun e w' => e = .returned (.int .i64 (idxB p l 0)) ∧ Below w.heap.size w w' := by
 have HR := Aside0.mk hr
 have HC := Aside0.mk hc
 have HP := Aside0.mk hp
 clear hr hc hp
 have HB := Aside0.mk (Below.refl w.heap.size w)
 go_enter Try.func56, Try.ntmps56
 go_wp2
 go_loopg [5, 8] l.length (fun kq v5 v8 w' => ∃ (i : Nat), v8 = .int .i64 i ∧ Aside0 (kq + i = l.length) ∧ Aside0 (idxB p (l.drop i) i = idxB p l 0) ∧ Aside0 (Below w.heap.size w w'))
 case atStart => exact ⟨0, rfl, ⟨rfl⟩, ⟨by simp⟩, HB⟩
 case round =>
  clear HB
  obtain ⟨i, rfl, HK, HI, HB⟩ := hrel
  have hm : l.length ≤ 9223372036854775807 := HR.out.2.1
  by_cases hlt : i < l.length
  ·have HD := Aside0.mk (dropLCon hlt)
   obtain ⟨ad, A1, c1, A3, c3, e, h0, h1, h2, h3, l1, g1, l3, g3⟩ := at_T44 HR.out (i : Int) (by omega) (by omega)
   cases e
   replace h0 := (HB.out.cell (World.block_lt_of_cell? w _ h0)).trans h0
   replace h1 := (HB.out.cell (World.block_lt_of_cell? w _ h1)).trans h1
   replace h2 := (HB.out.cell (World.block_lt_of_cell? w _ h2)).trans h2
   replace h3 := (HB.out.cell (World.block_lt_of_cell? w _ h3)).trans h3
   have G1 := Aside0.mk (Kd.C_below g1 HB.out)
   have G3 := Aside0.mk (Kd.C_below g3 HB.out)
   have L1 := Aside0.mk l1
   have L3 := Aside0.mk l3
   clear g1 g3 l1 l3
   simp only [Int.toNat_natCast] at h0 h1 h2 h3
   go_wp2_with (fail)
   refine (HP.out (rd_T44 l i) A1 c1 A3 c3 _ HB.out L1.out G1.out L3.out G3.out).mono ?_
   rintro e w' ⟨rfl, hb⟩
   have HB' := Aside0.mk (below_step HB.out hb)
   clear h0 h1 h2 h3 hb G1 G3 L1 L3
   have HE : idxB p (l.drop i) i = if p (rd_T44 l i) = true then (i : Int) else idxB p (l.drop (i + 1)) (i + 1) := by rw [HD.out]; rfl
   have HE := Aside0.mk HE
   cases hpx : p (rd_T44 l i)
   ·go_wp2
    go_roundg (l.length - i - 1)
    case measure => have := HK.out; omega
    case rel => exact ⟨i + 1, by go_num, ⟨by omega⟩, ⟨by have := HE.out; rw [hpx, if_neg (by decide)] at this; rw [← this]; exact HI.out⟩, HB'⟩
   ·go_wp2
    go_ret
    exact ⟨ret_int (by have := HE.out; rw [hpx, if_pos rfl] at this; rw [← HI.out, this]), HB'.out⟩
  ·go_wp2
   go_ret
   exact ⟨ret_int (by rw [← HI.out, List.drop_eq_nil_of_le (by omega)]; rfl), HB.out⟩
theorem dropLVar {l : List S96} {i : Nat} (hlt : i < l.length) : l.drop i = rd_T96 l i :: l.drop (i + 1) := by
 rw [List.drop_eq_getElem_cons hlt]
 simp [rd_T96, List.getD_eq_getElem?_getD, List.getElem?_eq_getElem hlt]
def PredLVar (g : Nat) (cap : Array Value) (p : S96 → Bool) (w : World) : Prop :=
 ∀ (x : S96) (W : World), Below w.heap.size w W → Calls Try.prog g (#[.agg #[.int .i64 x.f0, .int .i64 x.f1]] ++ cap) W fun e W' => e = .returned (.bool (p x)) ∧ Below W.heap.size W W'
set_option maxHeartbeats 1000000 in
set_option maxRecDepth 100000 in
theorem idxLVar (g : Nat) (cap : Array Value) (he : ∀ (args : Array Value) (W : World), (callFunc g args).run Try.prog W = .ok (.enter g args) W) (p : S96 → Bool) (A : Option Addr) (c : Nat) (l : List S96) (w : World) (hr : Kd.C k96 w A l.length l) (hc : l.length ≤ c)
  (hp : PredLVar g cap p w) :
  Calls Try.prog 108 #[.slice A l.length c, .func (.func g) #[] cap] w fun e w' => e = .returned (.int .i64 (idxB p l 0)) ∧ Below w.heap.size w w' := by
 have HR := Aside0.mk hr
 have HC := Aside0.mk hc
 have HP := Aside0.mk hp
 clear hr hc hp
 have HB := Aside0.mk (Below.refl w.heap.size w)
 go_enter Try.func108, Try.ntmps108
 go_wp2
 go_loopg [5, 8] l.length (fun kq v5 v8 w' => ∃ (i : Nat), v8 = .int .i64 i ∧ Aside0 (kq + i = l.length) ∧ Aside0 (idxB p (l.drop i) i = idxB p l 0) ∧ Aside0 (Below w.heap.size w w'))
 case atStart => exact ⟨0, rfl, ⟨rfl⟩, ⟨by simp⟩, HB⟩
 case round =>
  clear HB
  obtain ⟨i, rfl, HK, HI, HB⟩ := hrel
  have hm : l.length ≤ 9223372036854775807 := HR.out.2.1
  by_cases hlt : i < l.length
  ·have HD := Aside0.mk (dropLVar hlt)
   obtain ⟨ad, e, h0, h1⟩ := at_T96 HR.out (i : Int) (by omega) (by omega)
   cases e
   replace h0 := (HB.out.cell (World.block_lt_of_cell? w _ h0)).trans h0
   replace h1 := (HB.out.cell (World.block_lt_of_cell? w _ h1)).trans h1
   simp only [Int.toNat_natCast] at h0 h1
   go_wp2_with (fail)
   refine (HP.out (rd_T96 l i) _ HB.out).mono ?_
   rintro e w' ⟨rfl, hb⟩
   have HB' := Aside0.mk (below_step HB.out hb)
   clear h0 h1 hb 
   have HE : idxB p (l.drop i) i = if p (rd_T96 l i) = true then (i : Int) else idxB p (l.drop (i + 1)) (i + 1) := by rw [HD.out]; rfl
   have HE := Aside0.mk HE
   cases hpx : p (rd_T96 l i)
   ·go_wp2
    go_roundg (l.length - i - 1)
    case measure => have := HK.out; omega
    case rel => exact ⟨i + 1, by go_num, ⟨by omega⟩, ⟨by have := HE.out; rw [hpx, if_neg (by decide)] at this; rw [← this]; exact HI.out⟩, HB'⟩
   ·go_wp2
    go_ret
    exact ⟨ret_int (by have := HE.out; rw [hpx, if_pos rfl] at this; rw [← HI.out, this]), HB'.out⟩
  ·go_wp2
   go_ret
   exact ⟨ret_int (by rw [← HI.out, List.drop_eq_nil_of_le (by omega)]; rfl), HB.out⟩
theorem dropInt {l : List Int} {i : Nat} (hlt : i < l.length) : l.drop i = rd l i :: l.drop (i + 1) := by
 rw [List.drop_eq_getElem_cons hlt]
 simp [rd, List.getD_eq_getElem?_getD, List.getElem?_eq_getElem hlt]
def PredInt (g : Nat) (cap : Array Value) (p : Int → Bool) (w : World) : Prop :=
 ∀ (x : Int) (W : World), Below w.heap.size w W → Calls Try.prog g (#[.int .i64 x] ++ cap) W fun e W' => e = .returned (.bool (p x)) ∧ Below W.heap.size W W'
set_option maxHeartbeats 1000000 in
set_option maxRecDepth 100000 in
theorem idxInt (g : Nat) (cap : Array Value) (he : ∀ (args : Array Value) (W : World), (callFunc g args).run Try.prog W = .ok (.enter g args) W) (p : Int → Bool) (A : Option Addr) (c : Nat) (l : List Int) (w : World) (hr : Kd.C (Kd.int .i64) w A l.length l) (hc : l.length ≤ c)
  (hp : PredInt g cap p w) :
  Calls Try.prog 89 #[.slice A l.length c, .func (.func g) #[] cap] w fun e w' => e = .returned (.int .i64 (idxB p l 0)) ∧ Below w.heap.size w w' := by
 have HR := Aside0.mk hr
 have HC := Aside0.mk hc
 have HP := Aside0.mk hp
 clear hr hc hp
 have HB := Aside0.mk (Below.refl w.heap.size w)
 go_enter Try.func89, Try.ntmps89
 go_wp2
 go_loopg [5, 8] l.length (fun kq v5 v8 w' => ∃ (i : Nat), v8 = .int .i64 i ∧ Aside0 (kq + i = l.length) ∧ Aside0 (idxB p (l.drop i) i = idxB p l 0) ∧ Aside0 (Below w.heap.size w w'))
 case atStart => exact ⟨0, rfl, ⟨rfl⟩, ⟨by simp⟩, HB⟩
 case round =>
  clear HB
  obtain ⟨i, rfl, HK, HI, HB⟩ := hrel
  have hm : l.length ≤ 9223372036854775807 := HR.out.2.1
  by_cases hlt : i < l.length
  ·have HD := Aside0.mk (dropInt hlt)
   obtain ⟨ad, e, h0⟩ := Kd.at_int HR.out (i : Int) (by omega) (by omega)
   cases e
   replace h0 := (HB.out.cell (World.block_lt_of_cell? w _ h0)).trans h0
   simp only [Int.toNat_natCast] at h0
   go_wp2_with (fail)
   refine (HP.out (rd l i) _ HB.out).mono ?_
   rintro e w' ⟨rfl, hb⟩
   have HB' := Aside0.mk (below_step HB.out hb)
   clear h0 hb 
   have HE : idxB p (l.drop i) i = if p (rd l i) = true then (i : Int) else idxB p (l.drop (i + 1)) (i + 1) := by rw [HD.out]; rfl
   have HE := Aside0.mk HE
   cases hpx : p (rd l i)
   ·go_wp2
    go_roundg (l.length - i - 1)
    case measure => have := HK.out; omega
    case rel => exact ⟨i + 1, by go_num, ⟨by omega⟩, ⟨by have := HE.out; rw [hpx, if_neg (by decide)] at this; rw [← this]; exact HI.out⟩, HB'⟩
   ·go_wp2
    go_ret
    exact ⟨ret_int (by have := HE.out; rw [hpx, if_pos rfl] at this; rw [← HI.out, this]), HB'.out⟩
  ·go_wp2
   go_ret
   exact ⟨ret_int (by rw [← HI.out, List.drop_eq_nil_of_le (by omega)]; rfl), HB.out⟩
set_option maxHeartbeats 1000000 in
theorem hasLCon (g : Nat) (cap : Array Value) (he : ∀ (args : Array Value) (W : World), (callFunc g args).run Try.prog W = .ok (.enter g args) W) (p : S44 → Bool) (A : Option Addr) (c : Nat) (l : List S44) (w : World) (hr : Kd.C k44 w A l.length l) (hc : l.length ≤ c)
  (hp : PredLCon g cap p w) :
  Calls Try.prog 51 #[.slice A l.length c, .func (.func g) #[] cap] w fun e w' => e = .returned (.bool (l.any p)) ∧ Below w.heap.size w w' := by
 have H := Aside0.mk (idxLCon g cap he p A c l w hr hc hp)
 clear hr hc hp he
 go_enter Try.func51, Try.ntmps51
 go_wp2_with (fail)
 refine H.out.mono ?_
 rintro e w' ⟨rfl, hb⟩
 have HB := Aside0.mk hb
 clear hb
 have HA := Aside0.mk (idxB_any p l 0)
 generalize idxB p l 0 = q at HA ⊢
 go_wp2
 go_ret
 exact ⟨ret_bool HA.out, HB.out⟩
theorem find1 (b : Nat) (v : Int) (w : World) (hb : b < w.heap.size) (hc : w.cell? ⟨b, 0, none⟩ = some (.int .i64 v)) : PredLVar 109 #[.pointer (some ⟨b, 0, none⟩)] (fun x => x.f0 == v) w := by
 intro x W hB
 have h := (hB.cell (p := ⟨b, 0, none⟩) hb).trans hc
 have hlt : b < W.heap.size := Nat.lt_of_lt_of_le hb hB.size
 have hu := Try.underlying96
 clear hB hc hb
 go_enter Try.func109, Try.ntmps109
 go_wp2
 go_ret
 exact ⟨rfl, (Below.refl _ _).alloc (Nat.le_refl _) _⟩
def level_parts_find.f (l0 : List S96) (a1 : Int) : Option Int := some (idxB (fun x => x.f0 == a1) l0 0)
set_option maxHeartbeats 1000000 in
theorem level_parts_find.calls (A0 : Option Addr) (c0 : Nat) (l0 : List (S96)) (a1 : Int) (r : Int) (w : World) (hr0 : Kd.C k96 w A0 l0.length l0) (hc0 : l0.length ≤ c0) (h : level_parts_find.f l0 a1 = some r) :
  Calls Try.prog 100 #[.slice A0 l0.length c0, .int .i64 a1] w fun e w' => e = .returned (.int .i64 r) ∧ Below w.heap.size w w' := by
 obtain rfl := Option.some.inj h
 clear h
 have HR := Aside0.mk hr0
 have HC := Aside0.mk hc0
 clear hr0 hc0
 go_enter Try.func100, Try.ntmps100
 go_wp2_with (fail)
 refine (idxLVar 109 #[.pointer (some ⟨w.heap.size, 0, none⟩)] (enters_of Try.func109 (by kernel_rfl) rfl) (fun x => x.f0 == a1) A0 c0 l0 _ (Kd.C_alloc HR.out _) HC.out (find1 _ a1 _ (by simp) (by simp))).mono ?_
 rintro e w' ⟨rfl, hb⟩
 have HB := Aside0.mk (below_step ((Below.refl _ _).alloc (Nat.le_refl _) _) hb)
 clear hb
 go_wp2
 go_ret
 exact ⟨rfl, HB.out⟩
def upTo (n : Nat) : List Int := (List.range n).map fun (i : Nat) => (i : Int)
def graph_every.f (_k : Nat) (l0 : List S44) : Option (List Int) := if l0.length ≤ 4000 then some (upTo l0.length) else none
theorem graph_every.mono : ∀ a0 k, LeO (graph_every.f k a0) (graph_every.f (k + 1) a0) := fun _ _ => LeO.refl _
def evl (n i : Nat) : List Int := upTo i ++ List.replicate (n - i) 0
theorem evl_length {n i : Nat} (h : i ≤ n) : (evl n i).length = n := by simp [evl, upTo]; omega
theorem evl_set {n i : Nat} (h : i < n) : (evl n i).set i (i : Int) = evl n (i + 1) := by
 have e : n - i = (n - (i + 1)) + 1 := by omega
 have hl : (upTo i).length = i := by simp [upTo]
 have hr : List.replicate (n - i) (0 : Int) = 0 :: List.replicate (n - (i + 1)) 0 := by rw [e, List.replicate_succ]
 have hs : (upTo i ++ List.replicate (n - i) (0 : Int)).set i (i : Int) = upTo i ++ (List.replicate (n - i) (0 : Int)).set (i - (upTo i).length) (i : Int) := List.set_append_right _ _ (by omega)
 unfold evl
 rw [hs, hl, Nat.sub_self, hr, List.set_cons_zero]
 simp [upTo, List.range_succ]
set_option maxHeartbeats 1000000 in
set_option maxRecDepth 100000 in
theorem graph_every.calls (k : Nat) (A0 : Option Addr) (c0 : Nat) (l0 : List (S44)) (r : List Int) (w : World) (hr0 : Kd.C k44 w A0 l0.length l0) (hc0 : l0.length ≤ c0) (h : graph_every.f k l0 = some r) :
  Calls Try.prog 61 #[.slice A0 l0.length c0] w fun e w' => ∃ v0_ : Value, e = .returned (v0_) ∧ Kd.R (Kd.int .i64) 3 w' w.heap.size (fun _ => True) v0_ r ∧ Below w.heap.size w w' := by
 have HR0 := Aside0.mk hr0
 have HC0 := Aside0.mk hc0
 clear hr0 hc0
 have HB := Aside0.mk (Below.refl w.heap.size w)
 unfold graph_every.f at h
 by_cases hn : l0.length ≤ 4000
 ·rw [if_pos hn] at h
  obtain rfl := Option.some.inj h
  clear h
  go_enter Try.func61, Try.ntmps61
  go_wp2_with (first | ((with_reducible refine gate_dst (N := 7) rfl ?_); refine Kd.R_make (Kd.int .i64) _ 3 rfl (N := 7) rfl 25 _ _ rfl (l0.length : Int) rfl rfl Try.underlying25 (.int .i64 0) 8 info3 rfl (by decide) (by omega) 0 (ok := fun _ => True) (okp := fun _ => True) rfl (fun _ hk => hk) trivial (by omega) (by omega) (Below.refl _ _) (Nat.le_refl _) ?_; intro v139 w4 ho5 hb hg_ hnew_; clear hg_ hnew_; rw [Int.toNat_natCast] at ho5; have HO := Aside0.mk ho5; have HB := Aside0.mk hb; clear hb ho5; obtain ⟨Ao6, co6, eo6⟩ := Kd.R_slice HO.out; rw [List.length_replicate] at eo6; subst eo6))
  go_loopg [10] l0.length (fun kq v10 w' => ∃ (i : Nat), v10 = .int .i64 i ∧ Aside0 (kq + i = l0.length) ∧ Aside0 (Kd.R (Kd.int .i64) 3 w' w.heap.size (fun _ => True) (.slice Ao6 l0.length co6) (evl l0.length i)) ∧ Aside0 (Below w.heap.size w w'))
  case atStart => exact ⟨0, rfl, ⟨rfl⟩, ⟨by have := HO.out; simpa [evl, upTo] using this⟩, HB⟩
  case round =>
   clear HO HB
   obtain ⟨i, rfl, HK, HO, HB⟩ := hrel
   by_cases hlt : i < l0.length
   ·have hp := evl_set hlt
    have hl := evl_length (n := l0.length) (i := i) (by omega)
    generalize evl l0.length i = x at HO hp hl
    obtain ⟨go10, co10, eo10, gb10, gl10, cl10, HG10⟩ := Kd.R_form HO.out (by omega)
    injection eo10 with ea_ en_ ec_
    subst ea_
    subst ec_
    clear en_
    have GB := Aside0.mk gb10
    clear gb10 gl10 HG10
    obtain ⟨hx10_0, hf10_0⟩ := Kd.R_celln 0 HO.out (i : Int) (by omega) (by omega)
    have HP11 := Kd.R_putg HO.out (i : Int) (i : Int)
    simp only [Int.toNat_natCast] at HP11 hx10_0 hf10_0
    rw [hp] at HP11
    have HP := Aside0.mk HP11
    have HL := Aside0.mk hl
    clear HP11 hp hl
    go_wp2
    go_roundg (l0.length - i - 1)
    case measure => have := HK.out; omega
    case rel => exact ⟨i + 1, by go_num, ⟨by omega⟩, ⟨HP.out.1⟩, ⟨below_set HB.out GB.out⟩⟩
   ·have hi : i = l0.length := by have := HK.out; omega
    have HE := Aside0.mk (show evl l0.length i = upTo l0.length by rw [hi]; simp [evl])
    clear hi
    go_wp2
    go_ret
    exact ⟨_, rfl, by rw [← HE.out]; exact HO.out, HB.out⟩
 ·rw [if_neg hn] at h
  exact absurd h (by simp)
end Go.Proofs.Ytegejpcglabhbaa.G
