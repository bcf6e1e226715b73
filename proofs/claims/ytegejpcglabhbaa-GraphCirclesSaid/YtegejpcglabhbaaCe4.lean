/- A part of this claim's proof: texts of its author, and printed ones, packed by a program of its author's. -/
import Derived.Test.YtegejpcglabhbaaCe3
namespace Go.Proofs.Ytegejpcglabhbaa.G
open Go.RowKit Go.Proofs.YtegejpcglabhbaaW.PrintWords Go.Proofs.YtegejpcglabhbaaW.PrintLast Go.Proofs.YtegejpcglabhbaaW.PrintMore
set_option linter.unusedVariables false
set_option linter.unusedSimpArgs false
def lvlVars (l : List S96) : Nat → Nat → Bool
 | 0, _ => true
 | d + 1, i => if (rd_T96 l i).f0 < 0 then false else if 1200 ≤ (rd_T96 l i).f0 then false else if (rd_T96 l i).f1 < 0 then false else if 1000 < (rd_T96 l i).f1 then false
  else if 0 ≤ idxB (fun x => x.f0 == (rd_T96 l i).f0) (l.take i) 0 then false else lvlVars l d (i + 1)
def lvl (c : Int) (l : List S96) : Bool := if c < 0 then false else if 1000 < c then false else if 8 < l.length then false else lvlVars l l.length 0
def level_Valid.f (c : Int) (l : List S96) : Option Bool := some (lvl c l)
set_option maxHeartbeats 2000000 in
set_option maxRecDepth 100000 in
theorem level_Valid_calls (c : Int) (A : Option Addr) (cc : Nat) (l : List S96) (w : World) (hr : Kd.C k96 w A l.length l) (hc : l.length ≤ cc) :
  Calls Try.prog 88 #[.agg #[.int .i64 c, .slice A l.length cc]] w fun e w' => e = .returned (.bool (lvl c l)) ∧ Below w.heap.size w w' := by
 have hu41 := Try.underlying41
 have hu96 := Try.underlying96
 have HR := Aside0.mk hr
 have HC := Aside0.mk hc
 have hm : l.length ≤ 9223372036854775807 := hr.2.1
 clear hr hc
 have HL := Aside0.mk (show lvl c l = (if c < 0 then false else if 1000 < c then false else if 8 < l.length then false else lvlVars l l.length 0) from rfl)
 have BX := Aside0.mk (blk_new w (.cells #[.int .i64 c, .slice A l.length cc] 41))
 have HB := Aside0.mk (below_alloc (Below.refl w.heap.size w) (.cells #[.int .i64 c, .slice A l.length cc] 41))
 go_enter Try.func88, Try.ntmps88
 by_cases h1 : c < 0
 ·have hd : decide (c < 0) = true := decide_eq_true h1
  rw [if_pos h1] at HL
  go_wp2
  go_ret
  exact ⟨ret_bool HL.out.symm, HB.out⟩
 rw [if_neg h1] at HL
 have hd1 : decide (c < 0) = false := decide_eq_false h1
 by_cases h2 : 1000 < c
 ·have hd : decide (1000 < c) = true := decide_eq_true h2
  rw [if_pos h2] at HL
  go_wp2
  go_ret
  exact ⟨ret_bool HL.out.symm, HB.out⟩
 rw [if_neg h2] at HL
 have hd2 : decide (1000 < c) = false := decide_eq_false h2
 by_cases h3 : 8 < l.length
 ·have hd : decide (8 < (l.length : Int)) = true := decide_eq_true (by omega)
  rw [if_pos h3] at HL
  go_wp2
  go_ret
  exact ⟨ret_bool HL.out.symm, HB.out⟩
 rw [if_neg h3] at HL
 have hd3 : decide (8 < (l.length : Int)) = false := decide_eq_false (by omega)
 go_wp2
 clear hd1 hd2 hd3
 generalize w.alloc (.cells #[.int .i64 c, .slice A l.length cc] 41) = w1 at BX HB ⊢
 obtain ⟨bx, hbx⟩ : ∃ bx, w.heap.size = bx := ⟨_, rfl⟩
 rw [hbx] at BX ⊢
 clear hbx
 go_loopg [22] l.length (fun kq v22 w' => ∃ (i : Nat), v22 = .int .i64 (i : Int) ∧ Aside0 (kq + i = l.length) ∧ Aside0 (lvlVars l kq i = lvl c l) ∧ Aside0 (w'.heap[bx]? = some (.cells #[.int .i64 c, .slice A l.length cc] 41 (0, 0))) ∧ Aside0 (Below w.heap.size w w'))
 case atStart => exact ⟨0, rfl, ⟨rfl⟩, ⟨HL.out.symm⟩, BX, HB⟩
 case round =>
  clear BX HB HL
  obtain ⟨i, rfl, HK, HV, BX, HB⟩ := hrel
  by_cases hlt : i < l.length
  ·obtain ⟨kk, hkk⟩ : ∃ kk, gk = kk + 1 := ⟨gk - 1, by have := HK.out; omega⟩
   subst hkk
   obtain ⟨ad, e1, q0, q1⟩ := at_T96 HR.out (i : Int) (by omega) (by omega)
   subst e1
   replace q0 := (HB.out.cell (World.block_lt_of_cell? w _ q0)).trans q0
   replace q1 := (HB.out.cell (World.block_lt_of_cell? w _ q1)).trans q1
   simp only [Int.toNat_natCast] at q0 q1
   have HV2 := HV.out
   unfold lvlVars at HV2
   obtain ⟨x, hx⟩ : ∃ x, rd_T96 l (i : Int) = x := ⟨_, rfl⟩
   rw [hx] at q0 q1 HV2
   clear hx
   obtain ⟨v0, v1⟩ := x
   dsimp only at q0 q1 HV2
   replace HV2 := Aside0.mk HV2
   clear HV
   have BV := Aside0.mk (blk_new wr (.cells #[.int .i64 v0, .int .i64 v1] 96))
   have BX2 := Aside0.mk (blk_alloc BX.out (.cells #[.int .i64 v0, .int .i64 v1] 96))
   have HB2 := Aside0.mk (below_step HB.out (below_alloc (Below.refl wr.heap.size wr) (.cells #[.int .i64 v0, .int .i64 v1] 96)))
   clear BX HB
   have BX := BX2
   have HB := HB2
   clear BX2 HB2
   have hil : (i ≤ cc) = True := eq_true (by have := HC.out; omega)
   go_wp2
   clear q0 q1
   generalize wr.alloc (.cells #[.int .i64 v0, .int .i64 v1] 96) = w3 at BX HB BV ⊢
   generalize wr.heap.size = bv at BV ⊢
   have z0 := (blk_cell BV.out 0).trans rfl
   have z1 := (blk_cell BV.out 1).trans rfl
   by_cases c1 : v0 < 0
   ·have hd : decide (v0 < 0) = true := decide_eq_true c1
    rw [if_pos c1] at HV2
    go_quiet (fail)
    go_wp2
    go_ret
    exact ⟨ret_bool HV2.out, pw_below_drewN HB.out _⟩
   rw [if_neg c1] at HV2
   have hd1 : decide (v0 < 0) = false := decide_eq_false c1
   by_cases c2 : 1200 ≤ v0
   ·have hd : decide (1200 ≤ v0) = true := decide_eq_true c2
    rw [if_pos c2] at HV2
    go_quiet (fail)
    go_wp2
    go_ret
    exact ⟨ret_bool HV2.out, pw_below_drewN HB.out _⟩
   rw [if_neg c2] at HV2
   have hd2 : decide (1200 ≤ v0) = false := decide_eq_false c2
   by_cases c3 : v1 < 0
   ·have hd : decide (v1 < 0) = true := decide_eq_true c3
    rw [if_pos c3] at HV2
    go_quiet (fail)
    go_wp2
    go_ret
    exact ⟨ret_bool HV2.out, pw_below_drewN HB.out _⟩
   rw [if_neg c3] at HV2
   have hd3 : decide (v1 < 0) = false := decide_eq_false c3
   by_cases c4 : 1000 < v1
   ·have hd : decide (1000 < v1) = true := decide_eq_true c4
    rw [if_pos c4] at HV2
    go_quiet (fail)
    go_wp2
    go_ret
    exact ⟨ret_bool HV2.out, pw_below_drewN HB.out _⟩
   rw [if_neg c4] at HV2
   have hd4 : decide (1000 < v1) = false := decide_eq_false c4
   have hq : ∀ q : Int, idxB (fun x => x.f0 == v0) (l.take i) 0 = q → level_parts_find.f (l.take i) v0 = some q := fun q hq => by rw [← hq]; rfl
   obtain ⟨qi, hqi⟩ : ∃ qi, idxB (fun x => x.f0 == v0) (l.take i) 0 = qi := ⟨_, rfl⟩
   have hti : (l.take i).length = i := by rw [List.length_take]; omega
   have HFI := Aside0.mk (fun (W : World) (hW : Below w.heap.size w W) => (show Calls Try.prog 100 #[.slice (some ad) i cc, .int .i64 v0] W fun e w' => e = .returned (.int .i64 qi) ∧ Below W.heap.size W w' from by
    have h := level_parts_find.calls (some ad) cc (l.take i) v0 qi W (Kd.C_below (Kd.C_take HR.out (by omega)) hW) (by have := HC.out; omega) (hq qi hqi)
    rw [hti] at h
    exact h))
   rw [hqi] at HV2
   clear hq hqi hti z0 z1
   go_wp2
   refine start_ (n := 28) (S := fun w' => w'.heap[bv]? = some (.cells #[.int .i64 v0, .int .i64 v1] 96 (0, 0)) ∧ w'.heap[bx]? = some (.cells #[.int .i64 c, .slice (some ad) l.length cc] 41 (0, 0))) (ds := []) #[false, false, false, false, false, false, false, false, false, false, false, false, false, false, false, false, false, false, false, false, false, false, false, false, false, false, false, false] (by kernel_rfl) rfl rfl ⟨BV.out, BX.out⟩ (fun hHeld => ?_)
   refine pure_ (i := 0) (N := some 27) (v := ?_) (a' := ?_) #[true, false, false, false, false, false, false, false, false, false, false, false, false, false, false, false, false, false, false, false, false, false, false, false, false, false, false, false] rfl rfl (by kernel_rfl) (fun _ _ _ h => h) (Or.inl ⟨by rfl, ?_⟩) ?_ ?_
   rotate_left
   ·intro w'
    go_simp
    with_reducible rfl
   rotate_left
   ·simp only [Act.put, List.setIfInBounds_toArray, List.set_cons_zero, List.set_cons_succ, i64_w, i32_w]
    rfl
   refine take_ (i := 1) (N := some 28) (v := ?_) (a' := ?_) #[true, true, false, false, false, false, false, false, false, false, false, false, false, false, false, false, false, false, false, false, false, false, false, false, false, false, false, false] rfl rfl (by kernel_rfl) (fun _ _ _ h => h) (Or.inl ⟨by rfl, ?_⟩) hHeld ?_ ?_
   rotate_left
   ·rintro w' ⟨s0, s1⟩
    have z0 := (blk_cell s0 0).trans rfl
    have z1 := (blk_cell s0 1).trans rfl
    have z2 := (blk_cell s1 1).trans rfl
    go_simp
    with_reducible rfl
   rotate_left
   ·simp only [Act.put, List.setIfInBounds_toArray, List.set_cons_zero, List.set_cons_succ, i64_w, i32_w]
    rfl
   refine pure_ (i := 2) (N := some 29) (v := ?_) (a' := ?_) #[true, true, true, false, false, false, false, false, false, false, false, false, false, false, false, false, false, false, false, false, false, false, false, false, false, false, false, false] rfl rfl (by kernel_rfl) (fun _ _ _ h => h) (Or.inl ⟨by rfl, ?_⟩) ?_ ?_
   rotate_left
   ·intro w'
    go_simp
    with_reducible rfl
   rotate_left
   ·simp only [Act.put, List.setIfInBounds_toArray, List.set_cons_zero, List.set_cons_succ, i64_w, i32_w]
    rfl
   refine pure_ (i := 3) (N := some 30) (v := ?_) (a' := ?_) #[true, true, true, true, false, false, false, false, false, false, false, false, false, false, false, false, false, false, false, false, false, false, false, false, false, false, false, false] rfl rfl (by kernel_rfl) (fun _ _ _ h => h) (Or.inl ⟨by rfl, ?_⟩) ?_ ?_
   rotate_left
   ·intro w'
    go_simp
    with_reducible rfl
   rotate_left
   ·simp only [Act.put, List.setIfInBounds_toArray, List.set_cons_zero, List.set_cons_succ, i64_w, i32_w]
    rfl
   refine pure_ (i := 4) (N := some 31) (v := ?_) (a' := ?_) #[true, true, true, true, true, false, false, false, false, false, false, false, false, false, false, false, false, false, false, false, false, false, false, false, false, false, false, false] rfl rfl (by kernel_rfl) (fun _ _ _ h => h) (Or.inl ⟨by rfl, ?_⟩) ?_ ?_
   rotate_left
   ·intro w'
    go_simp
    with_reducible rfl
   rotate_left
   ·simp only [Act.put, List.setIfInBounds_toArray, List.set_cons_zero, List.set_cons_succ, i64_w, i32_w]
    rfl
   refine take_ (i := 5) (N := some 32) (v := ?_) (a' := ?_) #[true, true, true, true, true, true, false, false, false, false, false, false, false, false, false, false, false, false, false, false, false, false, false, false, false, false, false, false] rfl rfl (by kernel_rfl) (fun _ _ _ h => h) (Or.inl ⟨by rfl, ?_⟩) hHeld ?_ ?_
   rotate_left
   ·rintro w' ⟨s0, s1⟩
    have z0 := (blk_cell s0 0).trans rfl
    have z1 := (blk_cell s0 1).trans rfl
    have z2 := (blk_cell s1 1).trans rfl
    go_simp
    with_reducible rfl
   rotate_left
   ·simp only [Act.put, List.setIfInBounds_toArray, List.set_cons_zero, List.set_cons_succ, i64_w, i32_w]
    rfl
   refine pure_ (i := 6) (N := some 33) (v := ?_) (a' := ?_) #[true, true, true, true, true, true, true, false, false, false, false, false, false, false, false, false, false, false, false, false, false, false, false, false, false, false, false, false] rfl rfl (by kernel_rfl) (fun _ _ _ h => h) (Or.inl ⟨by rfl, ?_⟩) ?_ ?_
   rotate_left
   ·intro w'
    go_simp
    with_reducible rfl
   rotate_left
   ·simp only [Act.put, List.setIfInBounds_toArray, List.set_cons_zero, List.set_cons_succ, i64_w, i32_w]
    rfl
   refine pure_ (i := 7) (N := some 34) (v := ?_) (a' := ?_) #[true, true, true, true, true, true, true, true, false, false, false, false, false, false, false, false, false, false, false, false, false, false, false, false, false, false, false, false] rfl rfl (by kernel_rfl) (fun _ _ _ h => h) (Or.inl ⟨by rfl, ?_⟩) ?_ ?_
   rotate_left
   ·intro w'
    go_simp
    with_reducible rfl
   rotate_left
   ·simp only [Act.put, List.setIfInBounds_toArray, List.set_cons_zero, List.set_cons_succ, i64_w, i32_w]
    rfl
   refine pure_ (i := 8) (N := some 35) (v := ?_) (a' := ?_) #[true, true, true, true, true, true, true, true, true, false, false, false, false, false, false, false, false, false, false, false, false, false, false, false, false, false, false, false] rfl rfl (by kernel_rfl) (fun _ _ _ h => h) (Or.inl ⟨by rfl, ?_⟩) ?_ ?_
   rotate_left
   ·intro w'
    go_simp
    with_reducible rfl
   rotate_left
   ·simp only [Act.put, List.setIfInBounds_toArray, List.set_cons_zero, List.set_cons_succ, i64_w, i32_w]
    rfl
   refine pure_ (i := 9) (N := some 36) (v := ?_) (a' := ?_) #[true, true, true, true, true, true, true, true, true, true, false, false, false, false, false, false, false, false, false, false, false, false, false, false, false, false, false, false] rfl rfl (by kernel_rfl) (fun _ _ _ h => h) (Or.inl ⟨by rfl, ?_⟩) ?_ ?_
   rotate_left
   ·intro w'
    go_simp
    with_reducible rfl
   rotate_left
   ·simp only [Act.put, List.setIfInBounds_toArray, List.set_cons_zero, List.set_cons_succ, i64_w, i32_w]
    rfl
   refine take_ (i := 10) (N := some 37) (v := ?_) (a' := ?_) #[true, true, true, true, true, true, true, true, true, true, true, false, false, false, false, false, false, false, false, false, false, false, false, false, false, false, false, false] rfl rfl (by kernel_rfl) (fun _ _ _ h => h) (Or.inl ⟨by rfl, ?_⟩) hHeld ?_ ?_
   rotate_left
   ·rintro w' ⟨s0, s1⟩
    have z0 := (blk_cell s0 0).trans rfl
    have z1 := (blk_cell s0 1).trans rfl
    have z2 := (blk_cell s1 1).trans rfl
    go_simp
    with_reducible rfl
   rotate_left
   ·simp only [Act.put, List.setIfInBounds_toArray, List.set_cons_zero, List.set_cons_succ, i64_w, i32_w]
    rfl
   refine pure_ (i := 11) (N := some 38) (v := ?_) (a' := ?_) #[true, true, true, true, true, true, true, true, true, true, true, true, false, false, false, false, false, false, false, false, false, false, false, false, false, false, false, false] rfl rfl (by kernel_rfl) (fun _ _ _ h => h) (Or.inl ⟨by rfl, ?_⟩) ?_ ?_
   rotate_left
   ·intro w'
    go_simp
    with_reducible rfl
   rotate_left
   ·simp only [Act.put, List.setIfInBounds_toArray, List.set_cons_zero, List.set_cons_succ, i64_w, i32_w]
    rfl
   refine pure_ (i := 12) (N := some 39) (v := ?_) (a' := ?_) #[true, true, true, true, true, true, true, true, true, true, true, true, true, false, false, false, false, false, false, false, false, false, false, false, false, false, false, false] rfl rfl (by kernel_rfl) (fun _ _ _ h => h) (Or.inl ⟨by rfl, ?_⟩) ?_ ?_
   rotate_left
   ·intro w'
    go_simp
    with_reducible rfl
   rotate_left
   ·simp only [Act.put, List.setIfInBounds_toArray, List.set_cons_zero, List.set_cons_succ, i64_w, i32_w]
    rfl
   refine pure_ (i := 13) (N := some 40) (v := ?_) (a' := ?_) #[true, true, true, true, true, true, true, true, true, true, true, true, true, true, false, false, false, false, false, false, false, false, false, false, false, false, false, false] rfl rfl (by kernel_rfl) (fun _ _ _ h => h) (Or.inl ⟨by rfl, ?_⟩) ?_ ?_
   rotate_left
   ·intro w'
    go_simp
    with_reducible rfl
   rotate_left
   ·simp only [Act.put, List.setIfInBounds_toArray, List.set_cons_zero, List.set_cons_succ, i64_w, i32_w]
    rfl
   refine pure_ (i := 14) (N := some 41) (v := ?_) (a' := ?_) #[true, true, true, true, true, true, true, true, true, true, true, true, true, true, true, false, false, false, false, false, false, false, false, false, false, false, false, false] rfl rfl (by kernel_rfl) (fun _ _ _ h => h) (Or.inl ⟨by rfl, ?_⟩) ?_ ?_
   rotate_left
   ·intro w'
    go_simp
    with_reducible rfl
   rotate_left
   ·simp only [Act.put, List.setIfInBounds_toArray, List.set_cons_zero, List.set_cons_succ, i64_w, i32_w]
    rfl
   refine take_ (i := 15) (N := some 42) (v := ?_) (a' := ?_) #[true, true, true, true, true, true, true, true, true, true, true, true, true, true, true, true, false, false, false, false, false, false, false, false, false, false, false, false] rfl rfl (by kernel_rfl) (fun _ _ _ h => h) (Or.inl ⟨by rfl, ?_⟩) hHeld ?_ ?_
   rotate_left
   ·rintro w' ⟨s0, s1⟩
    have z0 := (blk_cell s0 0).trans rfl
    have z1 := (blk_cell s0 1).trans rfl
    have z2 := (blk_cell s1 1).trans rfl
    go_simp
    with_reducible rfl
   rotate_left
   ·simp only [Act.put, List.setIfInBounds_toArray, List.set_cons_zero, List.set_cons_succ, i64_w, i32_w]
    rfl
   refine pure_ (i := 16) (N := some 43) (v := ?_) (a' := ?_) #[true, true, true, true, true, true, true, true, true, true, true, true, true, true, true, true, true, false, false, false, false, false, false, false, false, false, false, false] rfl rfl (by kernel_rfl) (fun _ _ _ h => h) (Or.inl ⟨by rfl, ?_⟩) ?_ ?_
   rotate_left
   ·intro w'
    go_simp
    with_reducible rfl
   rotate_left
   ·simp only [Act.put, List.setIfInBounds_toArray, List.set_cons_zero, List.set_cons_succ, i64_w, i32_w]
    rfl
   refine pure_ (i := 17) (N := some 44) (v := ?_) (a' := ?_) #[true, true, true, true, true, true, true, true, true, true, true, true, true, true, true, true, true, true, false, false, false, false, false, false, false, false, false, false] rfl rfl (by kernel_rfl) (fun _ _ _ h => h) (Or.inl ⟨by rfl, ?_⟩) ?_ ?_
   rotate_left
   ·intro w'
    go_simp
    with_reducible rfl
   rotate_left
   ·simp only [Act.put, List.setIfInBounds_toArray, List.set_cons_zero, List.set_cons_succ, i64_w, i32_w]
    rfl
   refine pure_ (i := 18) (N := some 45) (v := ?_) (a' := ?_) #[true, true, true, true, true, true, true, true, true, true, true, true, true, true, true, true, true, true, true, false, false, false, false, false, false, false, false, false] rfl rfl (by kernel_rfl) (fun _ _ _ h => h) (Or.inl ⟨by rfl, ?_⟩) ?_ ?_
   rotate_left
   ·intro w'
    go_simp
    with_reducible rfl
   rotate_left
   ·simp only [Act.put, List.setIfInBounds_toArray, List.set_cons_zero, List.set_cons_succ, i64_w, i32_w]
    rfl
   refine pure_ (i := 19) (N := some 46) (v := ?_) (a' := ?_) #[true, true, true, true, true, true, true, true, true, true, true, true, true, true, true, true, true, true, true, true, false, false, false, false, false, false, false, false] rfl rfl (by kernel_rfl) (fun _ _ _ h => h) (Or.inl ⟨by rfl, ?_⟩) ?_ ?_
   rotate_left
   ·intro w'
    go_simp
    with_reducible rfl
   rotate_left
   ·simp only [Act.put, List.setIfInBounds_toArray, List.set_cons_zero, List.set_cons_succ, i64_w, i32_w]
    rfl
   refine take_ (i := 20) (N := some 47) (v := ?_) (a' := ?_) #[true, true, true, true, true, true, true, true, true, true, true, true, true, true, true, true, true, true, true, true, true, false, false, false, false, false, false, false] rfl rfl (by kernel_rfl) (fun _ _ _ h => h) (Or.inl ⟨by rfl, ?_⟩) hHeld ?_ ?_
   rotate_left
   ·rintro w' ⟨s0, s1⟩
    have z0 := (blk_cell s0 0).trans rfl
    have z1 := (blk_cell s0 1).trans rfl
    have z2 := (blk_cell s1 1).trans rfl
    go_simp
    with_reducible rfl
   rotate_left
   ·simp only [Act.put, List.setIfInBounds_toArray, List.set_cons_zero, List.set_cons_succ, i64_w, i32_w]
    rfl
   refine pure_ (i := 21) (N := some 48) (v := ?_) (a' := ?_) #[true, true, true, true, true, true, true, true, true, true, true, true, true, true, true, true, true, true, true, true, true, true, false, false, false, false, false, false] rfl rfl (by kernel_rfl) (fun _ _ _ h => h) (Or.inl ⟨by rfl, ?_⟩) ?_ ?_
   rotate_left
   ·intro w'
    go_simp
    with_reducible rfl
   rotate_left
   ·simp only [Act.put, List.setIfInBounds_toArray, List.set_cons_zero, List.set_cons_succ, i64_w, i32_w]
    rfl
   refine pure_ (i := 22) (N := some 49) (v := ?_) (a' := ?_) #[true, true, true, true, true, true, true, true, true, true, true, true, true, true, true, true, true, true, true, true, true, true, true, false, false, false, false, false] rfl rfl (by kernel_rfl) (fun _ _ _ h => h) (Or.inl ⟨by rfl, ?_⟩) ?_ ?_
   rotate_left
   ·intro w'
    go_simp
    with_reducible rfl
   rotate_left
   ·simp only [Act.put, List.setIfInBounds_toArray, List.set_cons_zero, List.set_cons_succ, i64_w, i32_w]
    rfl
   refine pure_ (i := 23) (N := some 50) (v := ?_) (a' := ?_) #[true, true, true, true, true, true, true, true, true, true, true, true, true, true, true, true, true, true, true, true, true, true, true, true, false, false, false, false] rfl rfl (by kernel_rfl) (fun _ _ _ h => h) (Or.inl ⟨by rfl, ?_⟩) ?_ ?_
   rotate_left
   ·intro w'
    go_simp
    with_reducible rfl
   rotate_left
   ·simp only [Act.put, List.setIfInBounds_toArray, List.set_cons_zero, List.set_cons_succ, i64_w, i32_w]
    rfl
   refine take_ (i := 24) (N := some 51) (v := ?_) (a' := ?_) #[true, true, true, true, true, true, true, true, true, true, true, true, true, true, true, true, true, true, true, true, true, true, true, true, true, false, false, false] rfl rfl (by kernel_rfl) (fun _ _ _ h => h) (Or.inl ⟨by rfl, ?_⟩) hHeld ?_ ?_
   rotate_left
   ·rintro w' ⟨s0, s1⟩
    have z0 := (blk_cell s0 0).trans rfl
    have z1 := (blk_cell s0 1).trans rfl
    have z2 := (blk_cell s1 1).trans rfl
    go_simp
    with_reducible rfl
   rotate_left
   ·simp only [Act.put, List.setIfInBounds_toArray, List.set_cons_zero, List.set_cons_succ, i64_w, i32_w]
    rfl
   refine one_ (i := 25) (N := some 52) #[true, true, true, true, true, true, true, true, true, true, true, true, true, true, true, true, true, true, true, true, true, true, true, true, true, true, false, false] rfl rfl (by kernel_rfl) (by decide) (fun K hK => ?_)
   refine goes_ Try.func100 (by kernel_rfl) rfl #[.slice (some ad) i cc, .int .i64 v0] (by rfl) rfl rfl (by (try simp only [List.map_toArray, List.map_cons, List.map_nil]); first | done | rfl) ?_
   refine (HFI.out _ (below_drew HB.out)).mono ?_
   rintro e2 w7 ⟨rfl, hb7⟩
   refine ⟨_, rfl, ?_⟩
   refine hK.out _ _ ⟨blk_below hHeld.1 hb7, blk_below hHeld.2 hb7⟩ (fun hHeld => ?_)
   clear hK K
   have HB7 := Aside0.mk (below_step (below_drew HB.out) hb7)
   have BX7 := Aside0.mk hHeld.2
   clear hb7
   refine norm_ (a' := ?_) ?_ ?_
   rotate_left
   ·show Act.put _ (some 52) _ = _
    simp only [Act.put, List.setIfInBounds_toArray, List.set_cons_zero, List.set_cons_succ, i64_w, i32_w]
    rfl
   refine pure_ (i := 26) (N := some 53) (v := ?_) (a' := ?_) #[true, true, true, true, true, true, true, true, true, true, true, true, true, true, true, true, true, true, true, true, true, true, true, true, true, true, true, false] rfl rfl (by kernel_rfl) (fun _ _ _ h => h) (Or.inl ⟨by rfl, ?_⟩) ?_ ?_
   rotate_left
   ·intro w'
    go_simp
    with_reducible rfl
   rotate_left
   ·simp only [Act.put, List.setIfInBounds_toArray, List.set_cons_zero, List.set_cons_succ, i64_w, i32_w]
    rfl
   refine pure_ (i := 27) (N := some 54) (v := ?_) (a' := ?_) #[true, true, true, true, true, true, true, true, true, true, true, true, true, true, true, true, true, true, true, true, true, true, true, true, true, true, true, true] rfl rfl (by kernel_rfl) (fun _ _ _ h => h) (Or.inl ⟨by rfl, ?_⟩) ?_ ?_
   rotate_left
   ·intro w'
    go_simp
    with_reducible rfl
   rotate_left
   ·simp only [Act.put, List.setIfInBounds_toArray, List.set_cons_zero, List.set_cons_succ, i64_w, i32_w]
    rfl
   refine done_ (by kernel_rfl) ?_
   clear hHeld BX BV HB hd1 hd2 hd3 hd4
   by_cases c5 : 0 ≤ qi
   ·have hd : decide (0 ≤ qi) = true := decide_eq_true c5
    rw [if_pos c5] at HV2
    go_wp2
    go_ret
    exact ⟨ret_bool HV2.out, HB7.out⟩
   ·have hd : decide (0 ≤ qi) = false := decide_eq_false c5
    rw [if_neg c5] at HV2
    go_wp2
    go_roundg kk
    case measure => omega
    case rel => exact ⟨i + 1, by go_num, ⟨by have := HK.out; omega⟩, HV2, BX7, HB7⟩
  ·have hk : gk = 0 := by have := HK.out; omega
   subst hk
   have HT := Aside0.mk (show true = lvl c l from HV.out)
   go_wp2
   go_ret
   exact ⟨ret_bool HT.out, HB.out⟩
end Go.Proofs.Ytegejpcglabhbaa.G
