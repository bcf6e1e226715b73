/- The reference's Eq: the walk. No condition. -/
import Derived.Test.YtiepinfcndefhaaTd
namespace Go.Proofs.Ytiepinfcndefhaa.S
open Go.RowKit Go.Proofs.YtiepinfcndefhaaW.PrintWords Go.Proofs.YtiepinfcndefhaaW.PrintLast Go.Proofs.YtiepinfcndefhaaW.PrintMore
set_option linter.unusedVariables false
set_option linter.unusedSimpArgs false

instance decAc : DecidableEq Ac := fun x y =>
  if h : x.a = y.a ∧ x.b = y.b ∧ x.s = y.s then .isTrue (by cases x; cases y; simp_all) else .isFalse (fun e => h (by rw [e]; exact ⟨rfl, rfl, rfl⟩))
set_option maxRecDepth 100000 in
theorem neq_ac (a b c d : Int) (s t : Bool) (w : World) : (binOp .neq 24 (.agg #[.int .i64 a, .int .i64 b, .bool s]) (.agg #[.int .i64 c, .int .i64 d, .bool t])).run Try.prog w = .ok (.bool (!decide (Ac.mk a b s = Ac.mk c d t))) w := by
  go_simp
  by_cases h1 : a = c <;> by_cases h2 : b = d <;> by_cases h3 : s = t <;> simp [h1, h2, h3]
theorem guard24 : Try.prog.eqGuardType Try.prog.depth 24 = false := by kernel_rfl
theorem neq_run {W : World} {o : Oper} {a : Act} {x y : Operand} {xs ys : Array Value} {r : Value} (ho : o.op = .binOp .neq 24 x y 24) (hx : a.eval x = .agg xs) (hy : a.eval y = .agg ys) (h : (binOp .neq 24 (.agg xs) (.agg ys)).run Try.prog W = .ok r W) : (execOp a.eval o).run Try.prog W = .ok (.value r) W := by
  have h1 := run_eqGuard_agg (P := Try.prog) W .neq 24 x y xs ys guard24
  simp [execOp, ho, hx, hy, h1, h, Sem.run_bind, Result.andThen]
/-- Are two calls equal, arcs and all. -/
def eqC (a b : Cl) : Bool := decide (a.src = b.src) && (decide (a.dst = b.dst) && decide (a.arcs = b.arcs))
theorem eqC_self (a : Cl) : eqC a a = true := by simp [eqC]
theorem ac_cells {w : World} {A : Option Addr} {l : List Ac} (h : kAc.C w A l.length l) (i : Nat) (hi : i < l.length) : ∃ ad, A = some ad ∧ ∀ W, Below w.heap.size w W → W.cell? (ad.add (i * 3)) = some (.int .i64 l[i].a) ∧ W.cell? ⟨(ad.add (i * 3)).block, (ad.add (i * 3)).off + 1, none⟩ = some (.int .i64 l[i].b) ∧ W.cell? ⟨(ad.add (i * 3)).block, (ad.add (i * 3)).off + 2, none⟩ = some (.bool l[i].s) := by
  obtain ⟨ad, e, q0, q1, q2⟩ := ac_get h i hi
  exact ⟨ad, e, fun W hb => ⟨(hb.cell (World.block_lt_of_cell? w _ q0)).trans q0, (hb.cell (World.block_lt_of_cell? w _ q1)).trans q1, (hb.cell (World.block_lt_of_cell? w _ q2)).trans q2⟩⟩
theorem drop_eq {a b : List Ac} {i : Nat} (ha : i < a.length) (hb : i < b.length) : decide (a.drop i = b.drop i) = (decide (a[i] = b[i]) && decide (a.drop (i + 1) = b.drop (i + 1))) := by
  have e1 : a.drop i = a[i] :: a.drop (i + 1) := List.drop_eq_getElem_cons ha
  have e2 : b.drop i = b[i] :: b.drop (i + 1) := List.drop_eq_getElem_cons hb
  generalize a[i] = x at e1 ⊢
  generalize b[i] = y at e2 ⊢
  generalize a.drop i = p at e1 ⊢
  generalize b.drop i = q at e2 ⊢
  subst e1
  subst e2
  by_cases h : x = y <;> simp [h]
set_option maxHeartbeats 4000000 in
set_option maxRecDepth 100000 in
theorem eq_calls (A B : Option Addr) (cp cq : Nat) (a b : Cl) (w : World) (ha : kAc.C w A a.arcs.length a.arcs) (hb : kAc.C w B b.arcs.length b.arcs) :
    Calls Try.prog 19 #[.agg #[.string a.src, .string a.dst, .slice A a.arcs.length cp], .agg #[.string b.src, .string b.dst, .slice B b.arcs.length cq]] w fun e w' => e = .returned (.bool (eqC a b)) ∧ Below w.heap.size w w' := by
  obtain ⟨s, d, as_⟩ := a
  obtain ⟨s2, d2, bs⟩ := b
  have HCA0 := Aside0.mk (show kAc.C w A as_.length as_ from ha)
  have HCB0 := Aside0.mk (show kAc.C w B bs.length bs from hb)
  have HLN := Aside0.mk (show as_.length ≤ 9223372036854775807 from ha.2.1)
  have hb0 : Below w.heap.size w ((w.alloc (.cells #[.string s, .string d, .slice A as_.length cp] 34)).alloc (.cells #[.string s2, .string d2, .slice B bs.length cq] 34)) := below_step (below_alloc (Below.refl _ _) _) (below_alloc (Below.refl _ _) _)
  have HB0 := Aside0.mk hb0
  have HBA := Aside0.mk (blk_below (blk_new w (.cells #[.string s, .string d, .slice A as_.length cp] 34)) (below_alloc (Below.refl _ _) (.cells #[.string s2, .string d2, .slice B bs.length cq] 34)))
  have HBB : Aside0 (((w.alloc (.cells #[.string s, .string d, .slice A as_.length cp] 34)).alloc (.cells #[.string s2, .string d2, .slice B bs.length cq] 34)).heap[w.heap.size + 1]? = some (.cells #[.string s2, .string d2, .slice B bs.length cq] 34 (0, 0))) := ⟨by
    have h1 := blk_new (w.alloc (.cells #[.string s, .string d, .slice A as_.length cp] 34)) (.cells #[.string s2, .string d2, .slice B bs.length cq] 34)
    rw [World.size_alloc] at h1
    exact h1⟩
  clear ha hb hb0
  by_cases h1 : s = s2
  · have e2 : (s.toList == s2.toList) = true := by rw [h1]; exact beq_self_eq_true _
    have e1 : (s == s2) = true := (beq_toListBytes _ _).trans e2
    by_cases h2 : d = d2
    · have f2 : (d.toList == d2.toList) = true := by rw [h2]; exact beq_self_eq_true _
      have f1 : (d == d2) = true := (beq_toListBytes _ _).trans f2
      by_cases h3 : as_.length = bs.length
      · have HR := Aside0.mk (show eqC ⟨s, d, as_⟩ ⟨s2, d2, bs⟩ = decide (as_ = bs) by simp [eqC, h1, h2])
        have HL := Aside0.mk h3
        have g1 : ((as_.length : Int) != (bs.length : Int)) = false := by simp [h3]
        have g2 : (as_.length != bs.length) = false := by simp [h3]
        clear h1 h2 h3
        go_enter Try.func19, Try.ntmps19
        go_wp2
        clear e1 e2 f1 f2 g1 g2
        generalize w.heap.size + 1 = bb at HBB ⊢
        generalize (w.alloc (.cells #[.string s, .string d, .slice A as_.length cp] 34)).alloc (.cells #[.string s2, .string d2, .slice B bs.length cq] 34) = W0 at HB0 HBA HBB ⊢
        have HBA0 := HBA
        have HBB0 := HBB
        have HBW := Aside0.mk (Below.refl W0.heap.size W0)
        clear HBA HBB
        go_loopg [5] as_.length (fun kq v5 w' => ∃ (i : Nat), v5 = .int .i64 (i : Int) ∧ Aside0 (kq + i = as_.length) ∧ Aside0 (decide (as_ = bs) = decide (as_.drop i = bs.drop i)) ∧ Aside0 (Below W0.heap.size W0 w'))
        case atStart => exact ⟨0, rfl, ⟨rfl⟩, ⟨by simp⟩, HBW⟩
        case round =>
          clear HBW
          obtain ⟨i, rfl, HK, HD, HBW⟩ := hrel
          have HBA := Aside0.mk (blk_below HBA0.out HBW.out)
          have HBB := Aside0.mk (blk_below HBB0.out HBW.out)
          have y2 := blk_at HBA.out (k := 2) rfl
          by_cases hlt : i < as_.length
          · have hdx : decide ((i : Int) < (as_.length : Int)) = true := decide_eq_true (by omega)
            have hi0 : (i : Int) < (as_.length : Int) := by omega
            have hi1 : (i : Int) < (bs.length : Int) := by have := HL.out; omega
            have hlt2 : i < bs.length := by have := HL.out; omega
            have hib : wrap64 ((i : Int) + 1) = (i : Int) + 1 := by have := HLN.out; unfold wrap64; omega
            obtain ⟨ad, ea, hqa⟩ := ac_cells (Kd.C_below HCA0.out (below_step HB0.out HBW.out)) i hlt
            obtain ⟨bd, eb, hqb⟩ := ac_cells (Kd.C_below HCB0.out (below_step HB0.out HBW.out)) i hlt2
            have HD2 := Aside0.mk (HD.out.trans (drop_eq hlt hlt2))
            have HLT := Aside0.mk hlt
            generalize as_[i] = x at hqa HD2
            generalize bs[i] = y at hqb HD2
            obtain ⟨xa, xb, xs⟩ := x
            obtain ⟨ya, yb, ys⟩ := y
            have HNE := Aside0.mk (fun W => neq_ac xa xb ya yb xs ys W)
            generalize decide (Ac.mk xa xb xs = Ac.mk ya yb ys) = bq at HNE HD2
            have HQA := Aside0.mk hqa
            have HQB := Aside0.mk hqb
            dsimp only at HQA HQB
            clear hqa hqb hlt2 HD
            subst ea
            subst eb
            cases bq with
            | true =>
              go_wp2
              clear y2 hdx
              refine start_ (n := 11) (S := fun w' => Below wr.heap.size wr w') (ds := []) #[false, false, false, false, false, false, false, false, false, false, false] (by kernel_rfl) rfl rfl (below_drew1 (Below.refl _ _)) (fun hHeld => ?_)
              refine pure_ (i := 0) (N := some 34) (v := ?_) (a' := ?_) #[true, false, false, false, false, false, false, false, false, false, false] rfl rfl (by kernel_rfl) (fun _ _ _ h => h) (Or.inl ⟨by rfl, ?_⟩) ?_ ?_
              rotate_left
              · intro w'
                go_simp
                with_reducible rfl
              rotate_left
              · simp only [Act.put, List.setIfInBounds_toArray, List.set_cons_zero, List.set_cons_succ, i64_w, i32_w]
                rfl
              refine take_ (i := 1) (N := some 35) (v := ?_) (a' := ?_) #[true, true, false, false, false, false, false, false, false, false, false] rfl rfl (by kernel_rfl) (fun _ _ _ h => h) (Or.inl ⟨by rfl, ?_⟩) hHeld ?_ ?_
              rotate_left
              · rintro w' s0
                have k0 := blk_at (blk_below HBA.out s0) (k := 2) rfl
                go_simp
                with_reducible rfl
              rotate_left
              · simp only [Act.put, List.setIfInBounds_toArray, List.set_cons_zero, List.set_cons_succ, i64_w, i32_w]
                rfl
              refine pure_ (i := 2) (N := some 36) (v := ?_) (a' := ?_) #[true, true, true, false, false, false, false, false, false, false, false] rfl rfl (by kernel_rfl) (fun _ _ _ h => h) (Or.inl ⟨by rfl, ?_⟩) ?_ ?_
              rotate_left
              · intro w'
                go_simp
                with_reducible rfl
              rotate_left
              · simp only [Act.put, List.setIfInBounds_toArray, List.set_cons_zero, List.set_cons_succ, i64_w, i32_w]
                rfl
              refine pure_ (i := 3) (N := some 37) (v := ?_) (a' := ?_) #[true, true, true, true, false, false, false, false, false, false, false] rfl rfl (by kernel_rfl) (fun _ _ _ h => h) (Or.inl ⟨by rfl, ?_⟩) ?_ ?_
              rotate_left
              · intro w'
                go_simp
                with_reducible rfl
              rotate_left
              · simp only [Act.put, List.setIfInBounds_toArray, List.set_cons_zero, List.set_cons_succ, i64_w, i32_w]
                rfl
              refine take_ (i := 4) (N := some 38) (v := ?_) (a' := ?_) #[true, true, true, true, true, false, false, false, false, false, false] rfl rfl (by kernel_rfl) (fun _ _ _ h => h) (Or.inl ⟨by rfl, ?_⟩) hHeld ?_ ?_
              rotate_left
              · rintro w' s0
                have q := HQA.out w' s0
                obtain ⟨q0, q1, q2⟩ := q
                go_simp
                with_reducible rfl
              rotate_left
              · simp only [Act.put, List.setIfInBounds_toArray, List.set_cons_zero, List.set_cons_succ, i64_w, i32_w]
                rfl
              refine pure_ (i := 5) (N := some 39) (v := ?_) (a' := ?_) #[true, true, true, true, true, true, false, false, false, false, false] rfl rfl (by kernel_rfl) (fun _ _ _ h => h) (Or.inl ⟨by rfl, ?_⟩) ?_ ?_
              rotate_left
              · intro w'
                go_simp
                with_reducible rfl
              rotate_left
              · simp only [Act.put, List.setIfInBounds_toArray, List.set_cons_zero, List.set_cons_succ, i64_w, i32_w]
                rfl
              refine take_ (i := 6) (N := some 40) (v := ?_) (a' := ?_) #[true, true, true, true, true, true, true, false, false, false, false] rfl rfl (by kernel_rfl) (fun _ _ _ h => h) (Or.inl ⟨by rfl, ?_⟩) hHeld ?_ ?_
              rotate_left
              · rintro w' s0
                have k0 := blk_at (blk_below HBB.out s0) (k := 2) rfl
                go_simp
                with_reducible rfl
              rotate_left
              · simp only [Act.put, List.setIfInBounds_toArray, List.set_cons_zero, List.set_cons_succ, i64_w, i32_w]
                rfl
              refine pure_ (i := 7) (N := some 41) (v := ?_) (a' := ?_) #[true, true, true, true, true, true, true, true, false, false, false] rfl rfl (by kernel_rfl) (fun _ _ _ h => h) (Or.inl ⟨by rfl, ?_⟩) ?_ ?_
              rotate_left
              · intro w'
                go_simp
                with_reducible rfl
              rotate_left
              · simp only [Act.put, List.setIfInBounds_toArray, List.set_cons_zero, List.set_cons_succ, i64_w, i32_w]
                rfl
              refine pure_ (i := 8) (N := some 42) (v := ?_) (a' := ?_) #[true, true, true, true, true, true, true, true, true, false, false] rfl rfl (by kernel_rfl) (fun _ _ _ h => h) (Or.inl ⟨by rfl, ?_⟩) ?_ ?_
              rotate_left
              · intro w'
                go_simp
                with_reducible rfl
              rotate_left
              · simp only [Act.put, List.setIfInBounds_toArray, List.set_cons_zero, List.set_cons_succ, i64_w, i32_w]
                rfl
              refine take_ (i := 9) (N := some 43) (v := ?_) (a' := ?_) #[true, true, true, true, true, true, true, true, true, true, false] rfl rfl (by kernel_rfl) (fun _ _ _ h => h) (Or.inl ⟨by rfl, ?_⟩) hHeld ?_ ?_
              rotate_left
              · rintro w' s0
                have q := HQB.out w' s0
                obtain ⟨q0, q1, q2⟩ := q
                go_simp
                with_reducible rfl
              rotate_left
              · simp only [Act.put, List.setIfInBounds_toArray, List.set_cons_zero, List.set_cons_succ, i64_w, i32_w]
                rfl
              refine pure_ (i := 10) (N := some 44) (v := ?_) (a' := ?_) #[true, true, true, true, true, true, true, true, true, true, true] rfl rfl (by kernel_rfl) (fun _ _ _ h => h) (Or.inl ⟨by rfl, ?_⟩) ?_ ?_
              rotate_left
              · intro w'
                refine neq_run (r := .bool false) (x := .tmp 38) (y := .tmp 43) (xs := #[.int .i64 xa, .int .i64 xb, .bool xs]) (ys := #[.int .i64 ya, .int .i64 yb, .bool ys]) ?_ ?_ ?_ (HNE.out w')
                · rfl
                · rfl
                · rfl
              rotate_left
              · simp only [Act.put, List.setIfInBounds_toArray, List.set_cons_zero, List.set_cons_succ, i64_w, i32_w]
                rfl
              refine done_ (by kernel_rfl) ?_
              have HH := Aside0.mk (below_step HBW.out hHeld)
              go_wp2
              go_roundg (as_.length - i - 1)
              case measure => have := HK.out; omega
              case rel => exact ⟨i + 1, by go_num, ⟨by have := HK.out; have := HLT.out; omega⟩, ⟨by rw [HD2.out, Bool.true_and]⟩, HH⟩
            | false =>
              go_wp2
              clear y2 hdx
              refine start_ (n := 11) (S := fun w' => Below wr.heap.size wr w') (ds := []) #[false, false, false, false, false, false, false, false, false, false, false] (by kernel_rfl) rfl rfl (below_drew1 (Below.refl _ _)) (fun hHeld => ?_)
              refine pure_ (i := 0) (N := some 34) (v := ?_) (a' := ?_) #[true, false, false, false, false, false, false, false, false, false, false] rfl rfl (by kernel_rfl) (fun _ _ _ h => h) (Or.inl ⟨by rfl, ?_⟩) ?_ ?_
              rotate_left
              · intro w'
                go_simp
                with_reducible rfl
              rotate_left
              · simp only [Act.put, List.setIfInBounds_toArray, List.set_cons_zero, List.set_cons_succ, i64_w, i32_w]
                rfl
              refine take_ (i := 1) (N := some 35) (v := ?_) (a' := ?_) #[true, true, false, false, false, false, false, false, false, false, false] rfl rfl (by kernel_rfl) (fun _ _ _ h => h) (Or.inl ⟨by rfl, ?_⟩) hHeld ?_ ?_
              rotate_left
              · rintro w' s0
                have k0 := blk_at (blk_below HBA.out s0) (k := 2) rfl
                go_simp
                with_reducible rfl
              rotate_left
              · simp only [Act.put, List.setIfInBounds_toArray, List.set_cons_zero, List.set_cons_succ, i64_w, i32_w]
                rfl
              refine pure_ (i := 2) (N := some 36) (v := ?_) (a' := ?_) #[true, true, true, false, false, false, false, false, false, false, false] rfl rfl (by kernel_rfl) (fun _ _ _ h => h) (Or.inl ⟨by rfl, ?_⟩) ?_ ?_
              rotate_left
              · intro w'
                go_simp
                with_reducible rfl
              rotate_left
              · simp only [Act.put, List.setIfInBounds_toArray, List.set_cons_zero, List.set_cons_succ, i64_w, i32_w]
                rfl
              refine pure_ (i := 3) (N := some 37) (v := ?_) (a' := ?_) #[true, true, true, true, false, false, false, false, false, false, false] rfl rfl (by kernel_rfl) (fun _ _ _ h => h) (Or.inl ⟨by rfl, ?_⟩) ?_ ?_
              rotate_left
              · intro w'
                go_simp
                with_reducible rfl
              rotate_left
              · simp only [Act.put, List.setIfInBounds_toArray, List.set_cons_zero, List.set_cons_succ, i64_w, i32_w]
                rfl
              refine take_ (i := 4) (N := some 38) (v := ?_) (a' := ?_) #[true, true, true, true, true, false, false, false, false, false, false] rfl rfl (by kernel_rfl) (fun _ _ _ h => h) (Or.inl ⟨by rfl, ?_⟩) hHeld ?_ ?_
              rotate_left
              · rintro w' s0
                have q := HQA.out w' s0
                obtain ⟨q0, q1, q2⟩ := q
                go_simp
                with_reducible rfl
              rotate_left
              · simp only [Act.put, List.setIfInBounds_toArray, List.set_cons_zero, List.set_cons_succ, i64_w, i32_w]
                rfl
              refine pure_ (i := 5) (N := some 39) (v := ?_) (a' := ?_) #[true, true, true, true, true, true, false, false, false, false, false] rfl rfl (by kernel_rfl) (fun _ _ _ h => h) (Or.inl ⟨by rfl, ?_⟩) ?_ ?_
              rotate_left
              · intro w'
                go_simp
                with_reducible rfl
              rotate_left
              · simp only [Act.put, List.setIfInBounds_toArray, List.set_cons_zero, List.set_cons_succ, i64_w, i32_w]
                rfl
              refine take_ (i := 6) (N := some 40) (v := ?_) (a' := ?_) #[true, true, true, true, true, true, true, false, false, false, false] rfl rfl (by kernel_rfl) (fun _ _ _ h => h) (Or.inl ⟨by rfl, ?_⟩) hHeld ?_ ?_
              rotate_left
              · rintro w' s0
                have k0 := blk_at (blk_below HBB.out s0) (k := 2) rfl
                go_simp
                with_reducible rfl
              rotate_left
              · simp only [Act.put, List.setIfInBounds_toArray, List.set_cons_zero, List.set_cons_succ, i64_w, i32_w]
                rfl
              refine pure_ (i := 7) (N := some 41) (v := ?_) (a' := ?_) #[true, true, true, true, true, true, true, true, false, false, false] rfl rfl (by kernel_rfl) (fun _ _ _ h => h) (Or.inl ⟨by rfl, ?_⟩) ?_ ?_
              rotate_left
              · intro w'
                go_simp
                with_reducible rfl
              rotate_left
              · simp only [Act.put, List.setIfInBounds_toArray, List.set_cons_zero, List.set_cons_succ, i64_w, i32_w]
                rfl
              refine pure_ (i := 8) (N := some 42) (v := ?_) (a' := ?_) #[true, true, true, true, true, true, true, true, true, false, false] rfl rfl (by kernel_rfl) (fun _ _ _ h => h) (Or.inl ⟨by rfl, ?_⟩) ?_ ?_
              rotate_left
              · intro w'
                go_simp
                with_reducible rfl
              rotate_left
              · simp only [Act.put, List.setIfInBounds_toArray, List.set_cons_zero, List.set_cons_succ, i64_w, i32_w]
                rfl
              refine take_ (i := 9) (N := some 43) (v := ?_) (a' := ?_) #[true, true, true, true, true, true, true, true, true, true, false] rfl rfl (by kernel_rfl) (fun _ _ _ h => h) (Or.inl ⟨by rfl, ?_⟩) hHeld ?_ ?_
              rotate_left
              · rintro w' s0
                have q := HQB.out w' s0
                obtain ⟨q0, q1, q2⟩ := q
                go_simp
                with_reducible rfl
              rotate_left
              · simp only [Act.put, List.setIfInBounds_toArray, List.set_cons_zero, List.set_cons_succ, i64_w, i32_w]
                rfl
              refine pure_ (i := 10) (N := some 44) (v := ?_) (a' := ?_) #[true, true, true, true, true, true, true, true, true, true, true] rfl rfl (by kernel_rfl) (fun _ _ _ h => h) (Or.inl ⟨by rfl, ?_⟩) ?_ ?_
              rotate_left
              · intro w'
                refine neq_run (r := .bool true) (x := .tmp 38) (y := .tmp 43) (xs := #[.int .i64 xa, .int .i64 xb, .bool xs]) (ys := #[.int .i64 ya, .int .i64 yb, .bool ys]) ?_ ?_ ?_ (HNE.out w')
                · rfl
                · rfl
                · rfl
              rotate_left
              · simp only [Act.put, List.setIfInBounds_toArray, List.set_cons_zero, List.set_cons_succ, i64_w, i32_w]
                rfl
              refine done_ (by kernel_rfl) ?_
              have HH := Aside0.mk (below_step HBW.out hHeld)
              go_wp2
              go_ret
              exact ⟨by rw [HR.out, HD2.out, Bool.false_and]; rfl, below_step HB0.out HH.out⟩
          · have hdx : decide ((i : Int) < (as_.length : Int)) = false := decide_eq_false (by omega)
            have HE := Aside0.mk (show decide (as_.drop i = bs.drop i) = true by
              rw [List.drop_eq_nil_of_le (by omega), List.drop_eq_nil_of_le (by have := HL.out; omega)]
              rfl)
            go_wp2
            go_ret
            exact ⟨by rw [HR.out, HD.out, HE.out]; rfl, below_step HB0.out HBW.out⟩
      · have HR := Aside0.mk (show eqC ⟨s, d, as_⟩ ⟨s2, d2, bs⟩ = false by
          have : decide (as_ = bs) = false := decide_eq_false (fun e => h3 (by rw [e]))
          simp [eqC, this])
        have g1 : ((as_.length : Int) != (bs.length : Int)) = true := by simp; omega
        have g2 : (as_.length != bs.length) = true := by simp [h3]
        have g3 : (as_.length == bs.length) = false := by simp [h3]
        clear h1 h2 h3
        go_enter Try.func19, Try.ntmps19
        go_wp2
        go_ret
        exact ⟨by rw [HR.out]; rfl, HB0.out⟩
    · have HR := Aside0.mk (show eqC ⟨s, d, as_⟩ ⟨s2, d2, bs⟩ = false by simp [eqC, h2])
      have f2 : (d.toList == d2.toList) = false := beq_eq_false_iff_ne.mpr (fun e => h2 (bytes_inj e))
      have f1 : (d == d2) = false := (beq_toListBytes _ _).trans f2
      clear h1 h2
      go_enter Try.func19, Try.ntmps19
      go_wp2
      go_ret
      exact ⟨by rw [HR.out]; rfl, HB0.out⟩
  · have HR := Aside0.mk (show eqC ⟨s, d, as_⟩ ⟨s2, d2, bs⟩ = false by simp [eqC, h1])
    have e2 : (s.toList == s2.toList) = false := beq_eq_false_iff_ne.mpr (fun e => h1 (bytes_inj e))
    have e1 : (s == s2) = false := (beq_toListBytes _ _).trans e2
    clear h1
    go_enter Try.func19, Try.ntmps19
    go_wp2
    go_ret
    exact ⟨by rw [HR.out]; rfl, HB0.out⟩
end Go.Proofs.Ytiepinfcndefhaa.S
