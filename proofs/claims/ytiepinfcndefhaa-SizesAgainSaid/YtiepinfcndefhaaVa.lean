/- The reference's before and Less: the walk. No condition. -/
import Derived.Test.YtiepinfcndefhaaTe
namespace Go.Proofs.Ytiepinfcndefhaa.S
open Go.RowKit Go.Proofs.YtiepinfcndefhaaW.PrintWords Go.Proofs.YtiepinfcndefhaaW.PrintLast Go.Proofs.YtiepinfcndefhaaW.PrintMore
set_option linter.unusedVariables false
set_option linter.unusedSimpArgs false

def beforeA (x y : Ac) : Bool := if x.a = y.a then (if x.b = y.b then !x.s && y.s else decide (x.b < y.b)) else decide (x.a < y.a)
set_option maxHeartbeats 2000000 in
theorem before_calls (x y : Ac) (w : World) : Calls Try.prog 57 #[.agg #[.int .i64 x.a, .int .i64 x.b, .bool x.s], .agg #[.int .i64 y.a, .int .i64 y.b, .bool y.s]] w fun e w' => e = .returned (.bool (beforeA x y)) ∧ Below w.heap.size w w' := by
  obtain ⟨a, b, s⟩ := x
  obtain ⟨c, d, t⟩ := y
  have HB0 := Aside0.mk (show Below w.heap.size w ((w.alloc (.cells #[.int .i64 a, .int .i64 b, .bool s] 24)).alloc (.cells #[.int .i64 c, .int .i64 d, .bool t] 24)) from below_step (below_alloc (Below.refl _ _) _) (below_alloc (Below.refl _ _) _))
  by_cases h1 : a = c
  · have g1 : (a != c) = false := by simp [h1]
    by_cases h2 : b = d
    · have g2 : (b != d) = false := by simp [h2]
      have HR := Aside0.mk (show beforeA ⟨a, b, s⟩ ⟨c, d, t⟩ = (!s && t) by simp [beforeA, h1, h2])
      clear h1 h2
      cases s <;> cases t <;> (go_enter Try.func57, Try.ntmps57; go_wp2; go_ret; exact ⟨by rw [HR.out]; rfl, HB0.out⟩)
    · have g2 : (b != d) = true := by simp [h2]
      have HR := Aside0.mk (show beforeA ⟨a, b, s⟩ ⟨c, d, t⟩ = decide (b < d) by simp [beforeA, h1, h2])
      clear h1 h2
      go_enter Try.func57, Try.ntmps57
      go_wp2
      go_ret
      exact ⟨by rw [HR.out]; rfl, HB0.out⟩
  · have g1 : (a != c) = true := by simp [h1]
    have HR := Aside0.mk (show beforeA ⟨a, b, s⟩ ⟨c, d, t⟩ = decide (a < c) by simp [beforeA, h1])
    clear h1
    go_enter Try.func57, Try.ntmps57
    go_wp2
    go_ret
    exact ⟨by rw [HR.out]; rfl, HB0.out⟩
def lessAs : List Ac → List Ac → Bool
  | [], [] => false
  | [], _ :: _ => true
  | _ :: _, [] => false
  | x :: a, y :: b => if x = y then lessAs a b else beforeA x y
def lssC (a b : Cl) : Bool := if a.src = b.src then (if a.dst = b.dst then lessAs a.arcs b.arcs else Op.bytesLess a.dst.toList b.dst.toList) else Op.bytesLess a.src.toList b.src.toList
theorem less_drop {a b : List Ac} {i : Nat} (ha : i < a.length) (hb : i < b.length) : lessAs (a.drop i) (b.drop i) = if a[i] = b[i] then lessAs (a.drop (i + 1)) (b.drop (i + 1)) else beforeA a[i] b[i] := by
  rw [List.drop_eq_getElem_cons ha, List.drop_eq_getElem_cons hb]
  rfl
theorem less_end {a b : List Ac} {i : Nat} (ha : i ≤ a.length) (hb : i ≤ b.length) (h : ¬ (i < a.length ∧ i < b.length)) : lessAs (a.drop i) (b.drop i) = decide (a.length < b.length) := by
  by_cases h1 : i < a.length
  · have e : i = b.length := by omega
    rw [List.drop_eq_getElem_cons h1, List.drop_eq_nil_of_le (show b.length ≤ i by omega)]
    exact (decide_eq_false (by omega)).symm
  · rw [List.drop_eq_nil_of_le (show a.length ≤ i by omega)]
    by_cases h2 : i < b.length
    · rw [List.drop_eq_getElem_cons h2]
      exact (decide_eq_true (by omega)).symm
    · rw [List.drop_eq_nil_of_le (show b.length ≤ i by omega)]
      exact (decide_eq_false (by omega)).symm
set_option maxHeartbeats 4000000 in
set_option maxRecDepth 100000 in
theorem less_calls (A B : Option Addr) (cp cq : Nat) (a b : Cl) (w : World) (ha : kAc.C w A a.arcs.length a.arcs) (hb : kAc.C w B b.arcs.length b.arcs) :
    Calls Try.prog 29 #[.agg #[.string a.src, .string a.dst, .slice A a.arcs.length cp], .agg #[.string b.src, .string b.dst, .slice B b.arcs.length cq]] w fun e w' => e = .returned (.bool (lssC a b)) ∧ Below w.heap.size w w' := by
  obtain ⟨s, d, as_⟩ := a
  obtain ⟨s2, d2, bs⟩ := b
  have HCA0 := Aside0.mk (show kAc.C w A as_.length as_ from ha)
  have HCB0 := Aside0.mk (show kAc.C w B bs.length bs from hb)
  have HLN := Aside0.mk (show as_.length ≤ 9223372036854775807 from ha.2.1)
  have hb0 : Below w.heap.size w ((w.alloc (.cells #[.string s, .string d, .slice A as_.length cp] 34)).alloc (.cells #[.string s2, .string d2, .slice B bs.length cq] 34)) := below_step (below_alloc (Below.refl _ _) _) (below_alloc (Below.refl _ _) _)
  have HB0 := Aside0.mk hb0
  have HBA := Aside0.mk (blk_below (blk_new w (.cells #[.string s, .string d, .slice A as_.length cp] 34)) (below_alloc (Below.refl _ _) (.cells #[.string s2, .string d2, .slice B bs.length cq] 34)))
  have HBB : Aside0 (((w.alloc (.cells #[.string s, .string d, .slice A as_.length cp] 34)).alloc (.cells #[.string s2, .string d2, .slice B bs.length cq] 34)).heap[w.heap.size + 1]? = some (.cells #[.string s2, .string d2, .slice B bs.length cq] 34 (0, 0))) := ⟨by
    have h1 := blk_new (w.alloc (.cells #[.string s, .string d, .slice A as_.length cp] 34)) (.cells #[.string s2, .string d2, .slice B bs.length cq] 34)
    rw [World.size_alloc] at h1
    exact h1⟩
  clear ha hb hb0
  by_cases h1 : s = s2
  · have e2 : (s.toList == s2.toList) = true := by rw [h1]; exact beq_self_eq_true _
    have e1 : (s == s2) = true := (beq_toListBytes _ _).trans e2
    by_cases h2 : d = d2
    · have f2 : (d.toList == d2.toList) = true := by rw [h2]; exact beq_self_eq_true _
      have f1 : (d == d2) = true := (beq_toListBytes _ _).trans f2
      have HR := Aside0.mk (show lssC ⟨s, d, as_⟩ ⟨s2, d2, bs⟩ = lessAs as_ bs by simp [lssC, h1, h2])
      clear h1 h2
      go_enter Try.func29, Try.ntmps29
      go_wp2
      clear e1 e2 f1 f2
      generalize w.heap.size + 1 = bb at HBB ⊢
      generalize (w.alloc (.cells #[.string s, .string d, .slice A as_.length cp] 34)).alloc (.cells #[.string s2, .string d2, .slice B bs.length cq] 34) = W0 at HB0 HBA HBB ⊢
      have HBA0 := HBA
      have HBB0 := HBB
      have HBW := Aside0.mk (Below.refl W0.heap.size W0)
      clear HBA HBB
      go_loopg [5] as_.length (fun kq v5 w' => ∃ (i : Nat), v5 = .int .i64 (i : Int) ∧ Aside0 (kq + i = as_.length) ∧ Aside0 (i ≤ bs.length) ∧ Aside0 (lessAs as_ bs = lessAs (as_.drop i) (bs.drop i)) ∧ Aside0 (Below W0.heap.size W0 w'))
      case atStart => exact ⟨0, rfl, ⟨rfl⟩, ⟨Nat.zero_le _⟩, ⟨by simp⟩, HBW⟩
      case round =>
        clear HBW
        obtain ⟨i, rfl, HK, HKB, HD, HBW⟩ := hrel
        have HBA := Aside0.mk (blk_below HBA0.out HBW.out)
        have HBB := Aside0.mk (blk_below HBB0.out HBW.out)
        have y2 := blk_at HBA.out (k := 2) rfl
        have z2 := blk_at HBB.out (k := 2) rfl
        by_cases hlt : i < as_.length
        · have hdx : decide ((i : Int) < (as_.length : Int)) = true := decide_eq_true (by omega)
          have hi0 : (i : Int) < (as_.length : Int) := by omega
          by_cases hlt2 : i < bs.length
          · have hdy : decide ((i : Int) < (bs.length : Int)) = true := decide_eq_true (by omega)
            have hi1 : (i : Int) < (bs.length : Int) := by omega
            have hib : wrap64 ((i : Int) + 1) = (i : Int) + 1 := by have := HLN.out; unfold wrap64; omega
            obtain ⟨ad, ea, hqa⟩ := ac_cells (Kd.C_below HCA0.out (below_step HB0.out HBW.out)) i hlt
            obtain ⟨bd, eb, hqb⟩ := ac_cells (Kd.C_below HCB0.out (below_step HB0.out HBW.out)) i hlt2
            have HD2 := Aside0.mk (HD.out.trans (less_drop hlt hlt2))
            have HLT := Aside0.mk hlt
            have HLT2 := Aside0.mk hlt2
            generalize as_[i] = x at hqa HD2
            generalize bs[i] = y at hqb HD2
            obtain ⟨xa, xb, xs⟩ := x
            obtain ⟨ya, yb, ys⟩ := y
            have HNE := Aside0.mk (fun W => neq_ac xa xb ya yb xs ys W)
            have HQA := Aside0.mk hqa
            have HQB := Aside0.mk hqb
            dsimp only at HQA HQB
            subst ea
            subst eb
            clear hqa hqb hlt2 hlt HD
            by_cases hbq : Ac.mk xa xb xs = Ac.mk ya yb ys
            · have HD3 := Aside0.mk (HD2.out.trans (if_pos hbq))
              rw [decide_eq_true hbq] at HNE
              clear HD2 hbq
              go_wp2
              clear y2 z2 hdx hdy
              refine start_ (n := 11) (S := fun w' => Below wr.heap.size wr w') (ds := []) #[false, false, false, false, false, false, false, false, false, false, false] (by kernel_rfl) rfl rfl (below_drew1 (Below.refl _ _)) (fun hHeld => ?_)
              refine pure_ (i := 0) (N := some 40) (v := ?_) (a' := ?_) #[true, false, false, false, false, false, false, false, false, false, false] rfl rfl (by kernel_rfl) (fun _ _ _ h => h) (Or.inl ⟨by rfl, ?_⟩) ?_ ?_
              rotate_left
              · intro w'
                go_simp
                with_reducible rfl
              rotate_left
              · simp only [Act.put, List.setIfInBounds_toArray, List.set_cons_zero, List.set_cons_succ, i64_w, i32_w]
                rfl
              refine take_ (i := 1) (N := some 41) (v := ?_) (a' := ?_) #[true, true, false, false, false, false, false, false, false, false, false] rfl rfl (by kernel_rfl) (fun _ _ _ h => h) (Or.inl ⟨by rfl, ?_⟩) hHeld ?_ ?_
              rotate_left
              · rintro w' s0
                have k0 := blk_at (blk_below HBA.out s0) (k := 2) rfl
                go_simp
                with_reducible rfl
              rotate_left
              · simp only [Act.put, List.setIfInBounds_toArray, List.set_cons_zero, List.set_cons_succ, i64_w, i32_w]
                rfl
              refine pure_ (i := 2) (N := some 42) (v := ?_) (a' := ?_) #[true, true, true, false, false, false, false, false, false, false, false] rfl rfl (by kernel_rfl) (fun _ _ _ h => h) (Or.inl ⟨by rfl, ?_⟩) ?_ ?_
              rotate_left
              · intro w'
                go_simp
                with_reducible rfl
              rotate_left
              · simp only [Act.put, List.setIfInBounds_toArray, List.set_cons_zero, List.set_cons_succ, i64_w, i32_w]
                rfl
              refine pure_ (i := 3) (N := some 43) (v := ?_) (a' := ?_) #[true, true, true, true, false, false, false, false, false, false, false] rfl rfl (by kernel_rfl) (fun _ _ _ h => h) (Or.inl ⟨by rfl, ?_⟩) ?_ ?_
              rotate_left
              · intro w'
                go_simp
                with_reducible rfl
              rotate_left
              · simp only [Act.put, List.setIfInBounds_toArray, List.set_cons_zero, List.set_cons_succ, i64_w, i32_w]
                rfl
              refine take_ (i := 4) (N := some 44) (v := ?_) (a' := ?_) #[true, true, true, true, true, false, false, false, false, false, false] rfl rfl (by kernel_rfl) (fun _ _ _ h => h) (Or.inl ⟨by rfl, ?_⟩) hHeld ?_ ?_
              rotate_left
              · rintro w' s0
                have q := HQA.out w' s0
                obtain ⟨q0, q1, q2⟩ := q
                go_simp
                with_reducible rfl
              rotate_left
              · simp only [Act.put, List.setIfInBounds_toArray, List.set_cons_zero, List.set_cons_succ, i64_w, i32_w]
                rfl
              refine pure_ (i := 5) (N := some 45) (v := ?_) (a' := ?_) #[true, true, true, true, true, true, false, false, false, false, false] rfl rfl (by kernel_rfl) (fun _ _ _ h => h) (Or.inl ⟨by rfl, ?_⟩) ?_ ?_
              rotate_left
              · intro w'
                go_simp
                with_reducible rfl
              rotate_left
              · simp only [Act.put, List.setIfInBounds_toArray, List.set_cons_zero, List.set_cons_succ, i64_w, i32_w]
                rfl
              refine take_ (i := 6) (N := some 46) (v := ?_) (a' := ?_) #[true, true, true, true, true, true, true, false, false, false, false] rfl rfl (by kernel_rfl) (fun _ _ _ h => h) (Or.inl ⟨by rfl, ?_⟩) hHeld ?_ ?_
              rotate_left
              · rintro w' s0
                have k0 := blk_at (blk_below HBB.out s0) (k := 2) rfl
                go_simp
                with_reducible rfl
              rotate_left
              · simp only [Act.put, List.setIfInBounds_toArray, List.set_cons_zero, List.set_cons_succ, i64_w, i32_w]
                rfl
              refine pure_ (i := 7) (N := some 47) (v := ?_) (a' := ?_) #[true, true, true, true, true, true, true, true, false, false, false] rfl rfl (by kernel_rfl) (fun _ _ _ h => h) (Or.inl ⟨by rfl, ?_⟩) ?_ ?_
              rotate_left
              · intro w'
                go_simp
                with_reducible rfl
              rotate_left
              · simp only [Act.put, List.setIfInBounds_toArray, List.set_cons_zero, List.set_cons_succ, i64_w, i32_w]
                rfl
              refine pure_ (i := 8) (N := some 48) (v := ?_) (a' := ?_) #[true, true, true, true, true, true, true, true, true, false, false] rfl rfl (by kernel_rfl) (fun _ _ _ h => h) (Or.inl ⟨by rfl, ?_⟩) ?_ ?_
              rotate_left
              · intro w'
                go_simp
                with_reducible rfl
              rotate_left
              · simp only [Act.put, List.setIfInBounds_toArray, List.set_cons_zero, List.set_cons_succ, i64_w, i32_w]
                rfl
              refine take_ (i := 9) (N := some 49) (v := ?_) (a' := ?_) #[true, true, true, true, true, true, true, true, true, true, false] rfl rfl (by kernel_rfl) (fun _ _ _ h => h) (Or.inl ⟨by rfl, ?_⟩) hHeld ?_ ?_
              rotate_left
              · rintro w' s0
                have q := HQB.out w' s0
                obtain ⟨q0, q1, q2⟩ := q
                go_simp
                with_reducible rfl
              rotate_left
              · simp only [Act.put, List.setIfInBounds_toArray, List.set_cons_zero, List.set_cons_succ, i64_w, i32_w]
                rfl
              refine pure_ (i := 10) (N := some 50) (v := ?_) (a' := ?_) #[true, true, true, true, true, true, true, true, true, true, true] rfl rfl (by kernel_rfl) (fun _ _ _ h => h) (Or.inl ⟨by rfl, ?_⟩) ?_ ?_
              rotate_left
              · intro w'
                refine neq_run (r := .bool false) (x := .tmp 44) (y := .tmp 49) (xs := #[.int .i64 xa, .int .i64 xb, .bool xs]) (ys := #[.int .i64 ya, .int .i64 yb, .bool ys]) ?_ ?_ ?_ (HNE.out w')
                · rfl
                · rfl
                · rfl
              rotate_left
              · simp only [Act.put, List.setIfInBounds_toArray, List.set_cons_zero, List.set_cons_succ, i64_w, i32_w]
                rfl
              refine done_ (by kernel_rfl) ?_
              have HH := Aside0.mk (below_step HBW.out hHeld)
              go_wp2
              go_roundg (as_.length - i - 1)
              case measure => have := HK.out; omega
              case rel => exact ⟨i + 1, by go_num, ⟨by have := HK.out; have := HLT.out; omega⟩, HLT2, HD3, HH⟩
            · have HD3 := Aside0.mk (HD2.out.trans (if_neg hbq))
              rw [decide_eq_false hbq] at HNE
              clear HD2 hbq
              go_wp2
              clear y2 z2 hdx hdy
              refine start_ (n := 11) (S := fun w' => Below wr.heap.size wr w') (ds := []) #[false, false, false, false, false, false, false, false, false, false, false] (by kernel_rfl) rfl rfl (below_drew1 (Below.refl _ _)) (fun hHeld => ?_)
              refine pure_ (i := 0) (N := some 40) (v := ?_) (a' := ?_) #[true, false, false, false, false, false, false, false, false, false, false] rfl rfl (by kernel_rfl) (fun _ _ _ h => h) (Or.inl ⟨by rfl, ?_⟩) ?_ ?_
              rotate_left
              · intro w'
                go_simp
                with_reducible rfl
              rotate_left
              · simp only [Act.put, List.setIfInBounds_toArray, List.set_cons_zero, List.set_cons_succ, i64_w, i32_w]
                rfl
              refine take_ (i := 1) (N := some 41) (v := ?_) (a' := ?_) #[true, true, false, false, false, false, false, false, false, false, false] rfl rfl (by kernel_rfl) (fun _ _ _ h => h) (Or.inl ⟨by rfl, ?_⟩) hHeld ?_ ?_
              rotate_left
              · rintro w' s0
                have k0 := blk_at (blk_below HBA.out s0) (k := 2) rfl
                go_simp
                with_reducible rfl
              rotate_left
              · simp only [Act.put, List.setIfInBounds_toArray, List.set_cons_zero, List.set_cons_succ, i64_w, i32_w]
                rfl
              refine pure_ (i := 2) (N := some 42) (v := ?_) (a' := ?_) #[true, true, true, false, false, false, false, false, false, false, false] rfl rfl (by kernel_rfl) (fun _ _ _ h => h) (Or.inl ⟨by rfl, ?_⟩) ?_ ?_
              rotate_left
              · intro w'
                go_simp
                with_reducible rfl
              rotate_left
              · simp only [Act.put, List.setIfInBounds_toArray, List.set_cons_zero, List.set_cons_succ, i64_w, i32_w]
                rfl
              refine pure_ (i := 3) (N := some 43) (v := ?_) (a' := ?_) #[true, true, true, true, false, false, false, false, false, false, false] rfl rfl (by kernel_rfl) (fun _ _ _ h => h) (Or.inl ⟨by rfl, ?_⟩) ?_ ?_
              rotate_left
              · intro w'
                go_simp
                with_reducible rfl
              rotate_left
              · simp only [Act.put, List.setIfInBounds_toArray, List.set_cons_zero, List.set_cons_succ, i64_w, i32_w]
                rfl
              refine take_ (i := 4) (N := some 44) (v := ?_) (a' := ?_) #[true, true, true, true, true, false, false, false, false, false, false] rfl rfl (by kernel_rfl) (fun _ _ _ h => h) (Or.inl ⟨by rfl, ?_⟩) hHeld ?_ ?_
              rotate_left
              · rintro w' s0
                have q := HQA.out w' s0
                obtain ⟨q0, q1, q2⟩ := q
                go_simp
                with_reducible rfl
              rotate_left
              · simp only [Act.put, List.setIfInBounds_toArray, List.set_cons_zero, List.set_cons_succ, i64_w, i32_w]
                rfl
              refine pure_ (i := 5) (N := some 45) (v := ?_) (a' := ?_) #[true, true, true, true, true, true, false, false, false, false, false] rfl rfl (by kernel_rfl) (fun _ _ _ h => h) (Or.inl ⟨by rfl, ?_⟩) ?_ ?_
              rotate_left
              · intro w'
                go_simp
                with_reducible rfl
              rotate_left
              · simp only [Act.put, List.setIfInBounds_toArray, List.set_cons_zero, List.set_cons_succ, i64_w, i32_w]
                rfl
              refine take_ (i := 6) (N := some 46) (v := ?_) (a' := ?_) #[true, true, true, true, true, true, true, false, false, false, false] rfl rfl (by kernel_rfl) (fun _ _ _ h => h) (Or.inl ⟨by rfl, ?_⟩) hHeld ?_ ?_
              rotate_left
              · rintro w' s0
                have k0 := blk_at (blk_below HBB.out s0) (k := 2) rfl
                go_simp
                with_reducible rfl
              rotate_left
              · simp only [Act.put, List.setIfInBounds_toArray, List.set_cons_zero, List.set_cons_succ, i64_w, i32_w]
                rfl
              refine pure_ (i := 7) (N := some 47) (v := ?_) (a' := ?_) #[true, true, true, true, true, true, true, true, false, false, false] rfl rfl (by kernel_rfl) (fun _ _ _ h => h) (Or.inl ⟨by rfl, ?_⟩) ?_ ?_
              rotate_left
              · intro w'
                go_simp
                with_reducible rfl
              rotate_left
              · simp only [Act.put, List.setIfInBounds_toArray, List.set_cons_zero, List.set_cons_succ, i64_w, i32_w]
                rfl
              refine pure_ (i := 8) (N := some 48) (v := ?_) (a' := ?_) #[true, true, true, true, true, true, true, true, true, false, false] rfl rfl (by kernel_rfl) (fun _ _ _ h => h) (Or.inl ⟨by rfl, ?_⟩) ?_ ?_
              rotate_left
              · intro w'
                go_simp
                with_reducible rfl
              rotate_left
              · simp only [Act.put, List.setIfInBounds_toArray, List.set_cons_zero, List.set_cons_succ, i64_w, i32_w]
                rfl
              refine take_ (i := 9) (N := some 49) (v := ?_) (a' := ?_) #[true, true, true, true, true, true, true, true, true, true, false] rfl rfl (by kernel_rfl) (fun _ _ _ h => h) (Or.inl ⟨by rfl, ?_⟩) hHeld ?_ ?_
              rotate_left
              · rintro w' s0
                have q := HQB.out w' s0
                obtain ⟨q0, q1, q2⟩ := q
                go_simp
                with_reducible rfl
              rotate_left
              · simp only [Act.put, List.setIfInBounds_toArray, List.set_cons_zero, List.set_cons_succ, i64_w, i32_w]
                rfl
              refine pure_ (i := 10) (N := some 50) (v := ?_) (a' := ?_) #[true, true, true, true, true, true, true, true, true, true, true] rfl rfl (by kernel_rfl) (fun _ _ _ h => h) (Or.inl ⟨by rfl, ?_⟩) ?_ ?_
              rotate_left
              · intro w'
                refine neq_run (r := .bool true) (x := .tmp 44) (y := .tmp 49) (xs := #[.int .i64 xa, .int .i64 xb, .bool xs]) (ys := #[.int .i64 ya, .int .i64 yb, .bool ys]) ?_ ?_ ?_ (HNE.out w')
                · rfl
                · rfl
                · rfl
              rotate_left
              · simp only [Act.put, List.setIfInBounds_toArray, List.set_cons_zero, List.set_cons_succ, i64_w, i32_w]
                rfl
              refine done_ (by kernel_rfl) ?_
              clear hHeld
              go_wp2
              refine start_ (n := 12) (S := fun w' => Below wr.heap.size wr w') (ds := [11]) #[false, false, false, false, false, false, false, false, false, false, false, false] (by kernel_rfl) rfl rfl (below_drew1 (below_drew1 (Below.refl _ _))) (fun hHeld => ?_)
              refine pure_ (i := 0) (N := some 51) (v := ?_) (a' := ?_) #[true, false, false, false, false, false, false, false, false, false, false, false] rfl rfl (by kernel_rfl) (fun _ _ _ h => h) (Or.inl ⟨by rfl, ?_⟩) ?_ ?_
              rotate_left
              · intro w'
                go_simp
                with_reducible rfl
              rotate_left
              · simp only [Act.put, List.setIfInBounds_toArray, List.set_cons_zero, List.set_cons_succ, i64_w, i32_w]
                rfl
              refine take_ (i := 1) (N := some 52) (v := ?_) (a' := ?_) #[true, true, false, false, false, false, false, false, false, false, false, false] rfl rfl (by kernel_rfl) (fun _ _ _ h => h) (Or.inl ⟨by rfl, ?_⟩) hHeld ?_ ?_
              rotate_left
              · rintro w' s0
                have k0 := blk_at (blk_below HBA.out s0) (k := 2) rfl
                go_simp
                with_reducible rfl
              rotate_left
              · simp only [Act.put, List.setIfInBounds_toArray, List.set_cons_zero, List.set_cons_succ, i64_w, i32_w]
                rfl
              refine pure_ (i := 2) (N := some 53) (v := ?_) (a' := ?_) #[true, true, true, false, false, false, false, false, false, false, false, false] rfl rfl (by kernel_rfl) (fun _ _ _ h => h) (Or.inl ⟨by rfl, ?_⟩) ?_ ?_
              rotate_left
              · intro w'
                go_simp
                with_reducible rfl
              rotate_left
              · simp only [Act.put, List.setIfInBounds_toArray, List.set_cons_zero, List.set_cons_succ, i64_w, i32_w]
                rfl
              refine pure_ (i := 3) (N := some 54) (v := ?_) (a' := ?_) #[true, true, true, true, false, false, false, false, false, false, false, false] rfl rfl (by kernel_rfl) (fun _ _ _ h => h) (Or.inl ⟨by rfl, ?_⟩) ?_ ?_
              rotate_left
              · intro w'
                go_simp
                with_reducible rfl
              rotate_left
              · simp only [Act.put, List.setIfInBounds_toArray, List.set_cons_zero, List.set_cons_succ, i64_w, i32_w]
                rfl
              refine take_ (i := 4) (N := some 55) (v := ?_) (a' := ?_) #[true, true, true, true, true, false, false, false, false, false, false, false] rfl rfl (by kernel_rfl) (fun _ _ _ h => h) (Or.inl ⟨by rfl, ?_⟩) hHeld ?_ ?_
              rotate_left
              · rintro w' s0
                have q := HQA.out w' s0
                obtain ⟨q0, q1, q2⟩ := q
                go_simp
                with_reducible rfl
              rotate_left
              · simp only [Act.put, List.setIfInBounds_toArray, List.set_cons_zero, List.set_cons_succ, i64_w, i32_w]
                rfl
              refine pure_ (i := 5) (N := some 56) (v := ?_) (a' := ?_) #[true, true, true, true, true, true, false, false, false, false, false, false] rfl rfl (by kernel_rfl) (fun _ _ _ h => h) (Or.inl ⟨by rfl, ?_⟩) ?_ ?_
              rotate_left
              · intro w'
                go_simp
                with_reducible rfl
              rotate_left
              · simp only [Act.put, List.setIfInBounds_toArray, List.set_cons_zero, List.set_cons_succ, i64_w, i32_w]
                rfl
              refine take_ (i := 6) (N := some 57) (v := ?_) (a' := ?_) #[true, true, true, true, true, true, true, false, false, false, false, false] rfl rfl (by kernel_rfl) (fun _ _ _ h => h) (Or.inl ⟨by rfl, ?_⟩) hHeld ?_ ?_
              rotate_left
              · rintro w' s0
                have k0 := blk_at (blk_below HBB.out s0) (k := 2) rfl
                go_simp
                with_reducible rfl
              rotate_left
              · simp only [Act.put, List.setIfInBounds_toArray, List.set_cons_zero, List.set_cons_succ, i64_w, i32_w]
                rfl
              refine pure_ (i := 7) (N := some 58) (v := ?_) (a' := ?_) #[true, true, true, true, true, true, true, true, false, false, false, false] rfl rfl (by kernel_rfl) (fun _ _ _ h => h) (Or.inl ⟨by rfl, ?_⟩) ?_ ?_
              rotate_left
              · intro w'
                go_simp
                with_reducible rfl
              rotate_left
              · simp only [Act.put, List.setIfInBounds_toArray, List.set_cons_zero, List.set_cons_succ, i64_w, i32_w]
                rfl
              refine pure_ (i := 8) (N := some 59) (v := ?_) (a' := ?_) #[true, true, true, true, true, true, true, true, true, false, false, false] rfl rfl (by kernel_rfl) (fun _ _ _ h => h) (Or.inl ⟨by rfl, ?_⟩) ?_ ?_
              rotate_left
              · intro w'
                go_simp
                with_reducible rfl
              rotate_left
              · simp only [Act.put, List.setIfInBounds_toArray, List.set_cons_zero, List.set_cons_succ, i64_w, i32_w]
                rfl
              refine take_ (i := 9) (N := some 60) (v := ?_) (a' := ?_) #[true, true, true, true, true, true, true, true, true, true, false, false] rfl rfl (by kernel_rfl) (fun _ _ _ h => h) (Or.inl ⟨by rfl, ?_⟩) hHeld ?_ ?_
              rotate_left
              · rintro w' s0
                have q := HQB.out w' s0
                obtain ⟨q0, q1, q2⟩ := q
                go_simp
                with_reducible rfl
              rotate_left
              · simp only [Act.put, List.setIfInBounds_toArray, List.set_cons_zero, List.set_cons_succ, i64_w, i32_w]
                rfl
              refine one_ (i := 10) (N := some 61) #[true, true, true, true, true, true, true, true, true, true, true, false] rfl rfl (by kernel_rfl) (by decide) (fun K hK => ?_)
              refine goes_ Try.func57 (by kernel_rfl) rfl #[.agg #[.int .i64 xa, .int .i64 xb, .bool xs], .agg #[.int .i64 ya, .int .i64 yb, .bool ys]] (by rfl) rfl rfl (by (try simp only [List.map_toArray, List.map_cons, List.map_nil]); first | done | rfl) ?_
              refine (before_calls ⟨xa, xb, xs⟩ ⟨ya, yb, ys⟩ _).mono ?_
              rintro e2 w3 ⟨rfl, hb3⟩
              refine ⟨_, rfl, ?_⟩
              have hB := below_step hHeld hb3
              refine hK.out _ _ hB (fun _ => ?_)
              clear hK K hHeld hb3
              have hHeld := hB
              clear hB
              refine norm_ (a' := ?_) ?_ ?_
              rotate_left
              · show Act.put _ (some 61) _ = _
                simp only [Act.put, List.setIfInBounds_toArray, List.set_cons_zero, List.set_cons_succ, i64_w, i32_w]
                rfl
              refine last_ (i := 11) (N := some 4) #[true, true, true, true, true, true, true, true, true, true, true, true] rfl rfl (by kernel_rfl) (by decide) (fun K hK => ?_)
              refine value_ (by rfl) rfl (w1 := w3) (v := .bool (beforeA ⟨xa, xb, xs⟩ ⟨ya, yb, ys⟩)) (by go_simp; try rfl) ?_
              have HH2 := Aside0.mk hHeld
              refine hK.out _ _ ?_
              clear hK K hHeld
              refine norm_ (a' := ?_) ?_ ?_
              rotate_left
              · show Act.put _ (some 4) _ = _
                simp only [Act.put, List.setIfInBounds_toArray, List.set_cons_zero, List.set_cons_succ, i64_w, i32_w]
                rfl
              refine done_ (by kernel_rfl) ?_
              go_wp2
              go_ret
              exact ⟨by rw [HR.out, HD3.out]; rfl, below_step HB0.out (below_step HBW.out HH2.out)⟩
          · have hdy : decide ((i : Int) < (bs.length : Int)) = false := decide_eq_false (by omega)
            have HE := Aside0.mk (less_end (Nat.le_of_lt hlt) HKB.out (fun h => hlt2 h.2))

            go_wp2
            go_ret
            exact ⟨by rw [HR.out, HD.out, HE.out]; rfl, below_step HB0.out HBW.out⟩
        · have hdx : decide ((i : Int) < (as_.length : Int)) = false := decide_eq_false (by omega)
          have HE := Aside0.mk (less_end (by have := HK.out; omega) HKB.out (fun h => hlt h.1))
          go_wp2
          go_ret
          exact ⟨by rw [HR.out, HD.out, HE.out]; rfl, below_step HB0.out HBW.out⟩
    · have HR := Aside0.mk (show lssC ⟨s, d, as_⟩ ⟨s2, d2, bs⟩ = Op.bytesLess d.toList d2.toList by simp [lssC, h1, h2])
      have f2 : (d.toList == d2.toList) = false := beq_eq_false_iff_ne.mpr (fun e => h2 (bytes_inj e))
      have f1 : (d == d2) = false := (beq_toListBytes _ _).trans f2
      clear h1 h2
      go_enter Try.func29, Try.ntmps29
      go_wp2
      go_ret
      exact ⟨by rw [HR.out]; rfl, HB0.out⟩
  · have HR := Aside0.mk (show lssC ⟨s, d, as_⟩ ⟨s2, d2, bs⟩ = Op.bytesLess s.toList s2.toList by simp [lssC, h1])
    have e2 : (s.toList == s2.toList) = false := beq_eq_false_iff_ne.mpr (fun e => h1 (bytes_inj e))
    have e1 : (s == s2) = false := (beq_toListBytes _ _).trans e2
    clear h1
    go_enter Try.func29, Try.ntmps29
    go_wp2
    go_ret
    exact ⟨by rw [HR.out]; rfl, HB0.out⟩
end Go.Proofs.Ytiepinfcndefhaa.S
