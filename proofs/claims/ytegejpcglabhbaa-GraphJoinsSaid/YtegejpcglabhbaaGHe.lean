/- Hand-made contract: graph.Extend. -/
import Derived.Test.YtegejpcglabhbaaGHh
import Derived.Test.YtegejpcglabhbaaGHj
import Derived.Test.YtegejpcglabhbaaGHq
import Derived.Test.YtegejpcglabhbaaGf74
namespace Go.Proofs.Ytegejpcglabhbaa.G
open Go.RowKit Go.Proofs.YtegejpcglabhbaaW.PrintWords Go.Proofs.YtegejpcglabhbaaW.PrintLast Go.Proofs.YtegejpcglabhbaaW.PrintMore
set_option linter.unusedVariables false
set_option linter.unusedSimpArgs false

theorem equal_l0 (a b : List Int) (hl : a.length = b.length) (hm : a.length ≤ 9223372036854775807) : ∀ (d i k : Nat), d + i = a.length → d < k → slices_Equal_int_int.l0 k a b (a.length : Int) (i : Int) = some (decide (a.drop i = b.drop i)) := by
  intro d
  induction d with
  | zero =>
    intro i k hd hk
    obtain ⟨k, rfl⟩ : ∃ m, k = m + 1 := ⟨k - 1, by omega⟩
    simp only [slices_Equal_int_int.l0]
    rw [if_neg (by omega), List.drop_eq_nil_of_le (by omega), List.drop_eq_nil_of_le (by omega)]
    simp
  | succ d ih =>
    intro i k hd hk
    obtain ⟨k, rfl⟩ : ∃ m, k = m + 1 := ⟨k - 1, by omega⟩
    have h1 : i < a.length := by omega
    have h2 : i < b.length := by omega
    have e1 : rd a (i : Int) = a[i] := by simp [rd, List.getD_eq_getElem?_getD, List.getElem?_eq_getElem h1]
    have e2 : rd b (i : Int) = b[i] := by simp [rd, List.getD_eq_getElem?_getD, List.getElem?_eq_getElem h2]
    simp only [slices_Equal_int_int.l0, e1, e2]
    rw [if_pos (by omega), if_pos (by omega), if_pos (by omega), if_pos (by omega), List.drop_eq_getElem_cons h1, List.drop_eq_getElem_cons h2]
    by_cases h : a[i] = b[i]
    · rw [if_pos h, show wrap64 ((i : Int) + 1) = ((i + 1 : Nat) : Int) by unfold wrap64; omega, ih (i + 1) k (by omega) (by omega)]
      generalize a.drop (i + 1) = x
      generalize b.drop (i + 1) = y
      simp [h]
    · rw [if_neg h]
      generalize a.drop (i + 1) = x
      generalize b.drop (i + 1) = y
      simp [h]
theorem equal_eq (a b : List Int) (hm : a.length ≤ 9223372036854775807) : slices_Equal_int_int.f (a.length + 1) a b = some (decide (a = b)) := by
  unfold slices_Equal_int_int.f
  by_cases h : a.length = b.length
  · rw [if_pos (by omega)]
    exact equal_l0 a b h hm a.length 0 _ (by omega) (by omega)
  · rw [if_neg (by omega), decide_eq_false (fun e => h (by rw [e]))]
theorem bound_eq (n : Int) (a : S41) : graph_bound.f n a.f0 a.f1 = some (bndOf n a) := by
  unfold graph_bound.f bndOf
  by_cases h : a.f1.length = 1
  · rw [if_pos (by omega), if_pos h]
    first | rfl | simp [h]
  · rw [if_neg (by omega), if_neg h]
theorem drawnE {w w1 : World} (h : Drawn0 w w1) : Below w.heap.size w w1 := by
  obtain ⟨nd, rfl⟩ := h
  exact pw_below_drewN (Below.refl _ _) nd
/-- One round over the constraints: the numbers and whether some were raised; none: a circle. -/
def extL (n : Nat) : List S44 → List Int → Bool → Option (List Int × Bool)
  | [], out, raised => some (out, raised)
  | c :: cs, out, raised =>
    if (bndOf n c.f1).1 = n then if 0 < sideB c.f0 out - (bndOf n c.f1).2 then none else extL n cs out raised
    else if sideB c.f0 out - (bndOf n c.f1).2 ≤ out.getD (bndOf n c.f1).1.toNat 0 then extL n cs out raised else extL n cs (out.set (bndOf n c.f1).1.toNat (sideB c.f0 out - (bndOf n c.f1).2)) true
/-- The rounds. -/
def extG (n : Nat) (all : List S44) : Nat → Nat → List Int → Option (List Int × Int)
  | 0, _, _ => none
  | k + 1, round, out =>
    match extL n all out false with
    | none => some ([], 20)
    | some p => if p.2 = false then some (p.1, 0) else if n + 1 < round then some ([], 20) else extG n all k (round + 1) p.1
def extS (k n : Nat) (l1 : List S44) (sol : List Int) (l3 : List S44) : Option (List Int × Int) :=
  (solvedN k n l1).bind fun s => if s.2 = 0 then if s.1 = sol then if sol.length = n ∧ ∀ v ∈ sol, 0 ≤ v ∧ v ≤ 2000000 then extG n (l1 ++ l3) (n + 5) 0 sol else none else some ([], 1) else some ([], 1)
def graph_Extend.f (k : Nat) (a0 : Int) (l1 : List S44) (l2 : List Int) (l3 : List S44) : Option (List Int × Int) :=
  if validB a0 l1 = true then if validB a0 l3 = true then if 3000 < l1.length + l3.length then some ([], 4) else extS k a0.toNat l1 l2 l3 else some ([], 4) else some ([], 4)
theorem graph_Extend.mono : ∀ a0 l1 l2 l3 k, LeO (graph_Extend.f k a0 l1 l2 l3) (graph_Extend.f (k + 1) a0 l1 l2 l3) := fun _ _ _ _ _ =>
  LeO.ite (LeO.ite (LeO.ite (LeO.refl _) (LeO.bind (solvedN.mono _ _ _) fun _ => LeO.refl _)) (LeO.refl _)) (LeO.refl _)
/-- Numbers that are not too great. -/
def OutOk (n : Nat) (out : List Int) (B : Int) : Prop := out.length = n ∧ ∀ v, 0 ≤ out.getD v 0 ∧ out.getD v 0 ≤ B
theorem OutOk.side {n : Nat} {out : List Int} {B : Int} (h : OutOk n out B) (hB : B ≤ 3000000000000) {c : S44} (hc : FitOk n c) : SideOk c.f0 out ∧ 0 ≤ sideB c.f0 out ∧ sideB c.f0 out ≤ B + 1000 := by
  refine ⟨⟨by have := hc.a.len; omega, fun v hv => ?_⟩, ?_, ?_⟩
  · have h1 := hc.a.var v hv
    have h2 := hc.av v hv
    have h3 := h.2 v.f0.toNat
    have h4 := h.1
    refine ⟨by omega, by omega, by omega, by omega⟩
  · have h1 := hc.a.c0
    have h2 : ∀ (l : List S96) (m : Int), m ≤ l.foldl (fun m v => max m (out.getD v.f0.toNat 0 + v.f1)) m := by
      intro l
      induction l with
      | nil => intro m; exact Int.le_refl _
      | cons v l ih => intro m; exact Int.le_trans (Int.le_max_left _ _) (ih _)
    exact Int.le_trans h1 (h2 _ _)
  · have h2 : ∀ (l : List S96) (m : Int), m ≤ B + 1000 → (∀ v ∈ l, v.f1 ≤ 1000) → l.foldl (fun m v => max m (out.getD v.f0.toNat 0 + v.f1)) m ≤ B + 1000 := by
      intro l
      induction l with
      | nil => intro m hm _; exact hm
      | cons v l ih =>
        intro m hm hl
        refine ih _ ?_ (fun x hx => hl x (List.mem_cons_of_mem _ hx))
        have k1 := (h.2 v.f0.toNat).2
        have k2 := hl v List.mem_cons_self
        show max m (out.getD v.f0.toNat 0 + v.f1) ≤ B + 1000
        omega
    have h3 := h.2 0
    exact h2 _ _ (by have := hc.a.c1; omega) (fun v hv => (hc.a.var v hv).2.2.2)
theorem OutOk.set {n : Nat} {out : List Int} {B : Int} (h : OutOk n out B) (t : Nat) (x : Int) (h0 : 0 ≤ x) (hx : x ≤ B + 1000) : OutOk n (out.set t x) (B + 1000) := by
  refine ⟨by rw [List.length_set]; exact h.1, fun v => ?_⟩
  have h1 := h.2 v
  rw [List.getD_eq_getElem?_getD, List.getElem?_set]
  by_cases e : t = v
  · rw [if_pos e]
    by_cases e2 : t < out.length
    · rw [if_pos e2]
      show 0 ≤ x ∧ x ≤ B + 1000
      omega
    · rw [if_neg e2]
      show (0 : Int) ≤ 0 ∧ (0 : Int) ≤ B + 1000
      omega
  · rw [if_neg e, ← List.getD_eq_getElem?_getD]
    omega
theorem OutOk.more {n : Nat} {out : List Int} {B B2 : Int} (h : OutOk n out B) (hB : B ≤ B2) : OutOk n out B2 := ⟨h.1, fun v => by have := h.2 v; omega⟩
set_option maxHeartbeats 8000000 in
set_option maxRecDepth 100000 in
theorem graph_Extend.calls (k : Nat) (a0 : Int) (A1 : Option Addr) (c1 : Nat) (l1 : List (S44)) (A2 : Option Addr) (c2 : Nat) (l2 : List Int) (A3 : Option Addr) (c3 : Nat) (l3 : List (S44)) (r1 : List Int) (r2 : Int) (w : World) (hr1 : Kd.C k44 w A1 l1.length l1) (hc1 : l1.length ≤ c1) (hr2 : Kd.C (Kd.int .i64) w A2 l2.length l2) (hc2 : l2.length ≤ c2) (hr3 : Kd.C k44 w A3 l3.length l3) (hc3 : l3.length ≤ c3) (h : graph_Extend.f k a0 l1 l2 l3 = some (r1, r2)) :
    Calls Try.prog 42 #[.int .i64 a0, .slice A1 l1.length c1, .slice A2 l2.length c2, .slice A3 l3.length c3] w fun e w' => ∃ v0_ : Value, e = .returned (.tuple #[v0_, .int .i64 r2]) ∧ Kd.R (Kd.int .i64) 3 w' w.heap.size (fun _ => True) v0_ r1 ∧ Below w.heap.size w w' := by
  have hu44 := Try.underlying44
  have hu41 := Try.underlying41
  have HR1 := Aside0.mk hr1
  have HC1 := Aside0.mk hc1
  have HR2 := Aside0.mk hr2
  have HC2 := Aside0.mk hc2
  have HR3 := Aside0.mk hr3
  have HC3 := Aside0.mk hc3
  have M1 : l1.length ≤ 9223372036854775807 := hr1.2.1
  have M3 : l3.length ≤ 9223372036854775807 := hr3.2.1
  have H := Aside0.mk h
  clear hr1 hc1 hr2 hc2 hr3 hc3 h
  go_enter Try.func42, Try.ntmps42
  go_wp2_with (fail)
  refine (graph_Valid.calls a0 A1 c1 l1 (validB a0 l1) _ HR1.out HC1.out rfl).mono ?_
  rintro e w1 ⟨rfl, hb⟩
  have HB := Aside0.mk hb
  clear hb
  have H2 := H.out
  unfold graph_Extend.f at H2
  cases hv : validB a0 l1 with
  | false =>
    rw [hv, if_neg (by decide)] at H2
    obtain ⟨rfl, rfl⟩ := Prod.mk.inj (Option.some.inj H2)
    clear hv H2 H
    go_wp2
    (try simp only [Exit.inBlock, Exit.then])
    refine bodyPost_ret (results_list (rs := [.tmp 8, .tmp 9]) rfl (by simp) (.tmp (.tmp .nil))) rfl ?_
    exact ⟨_, rfl, Kd.R_nil _ _ _ _ _, HB.out⟩
  | true =>
  rw [hv, if_pos rfl] at H2
  obtain ⟨n, rfl, hs⟩ := valid_ok hv
  have HS := Aside0.mk hs
  rw [Int.toNat_natCast] at H2
  clear hv hs H
  have H := Aside0.mk H2
  clear H2
  go_wp2_with (fail)
  refine (graph_Valid.calls (n : Int) A3 c3 l3 (validB (n : Int) l3) _ (Kd.C_below HR3.out HB.out) HC3.out rfl).mono ?_
  rintro e w2 ⟨rfl, hb⟩
  have HB := Aside0.mk (below_step HB.out hb)
  clear hb
  have H2 := H.out
  cases hv : validB (n : Int) l3 with
  | false =>
    rw [hv, if_neg (by decide)] at H2
    obtain ⟨rfl, rfl⟩ := Prod.mk.inj (Option.some.inj H2)
    clear hv H2 H
    go_wp2
    (try simp only [Exit.inBlock, Exit.then])
    refine bodyPost_ret (results_list (rs := [.tmp 8, .tmp 9]) rfl (by simp) (.tmp (.tmp .nil))) rfl ?_
    exact ⟨_, rfl, Kd.R_nil _ _ _ _ _, HB.out⟩
  | true =>
  rw [hv, if_pos rfl] at H2
  obtain ⟨n2, hn2, hs3⟩ := valid_ok hv
  obtain rfl : n = n2 := by omega
  have HS3 := Aside0.mk hs3
  have hl1 := HS.out.len
  have hl3 := hs3.len
  clear hv hs3 hn2 H
  by_cases h30 : 3000 < l1.length + l3.length
  · rw [if_pos h30] at H2
    obtain ⟨rfl, rfl⟩ := Prod.mk.inj (Option.some.inj H2)
    have hd : decide ((3000 : Int) < (l1.length : Int) + (l3.length : Int)) = true := decide_eq_true (by omega)
    clear H2 h30
    go_wp2
    (try simp only [Exit.inBlock, Exit.then])
    refine bodyPost_ret (results_list (rs := [.tmp 8, .tmp 9]) rfl (by simp) (.tmp (.tmp .nil))) rfl ?_
    exact ⟨_, rfl, Kd.R_nil _ _ _ _ _, HB.out⟩
  rw [if_neg h30] at H2
  unfold extS at H2
  obtain ⟨⟨s1, s2⟩, hso, H3⟩ := Option.bind_eq_some_iff.1 H2
  have hd : decide ((3000 : Int) < (l1.length : Int) + (l3.length : Int)) = false := decide_eq_false (by omega)
  have HSOL := Aside0.mk hso
  have H := Aside0.mk H3
  have H30 := Aside0.mk h30
  clear H2 H3 hso h30
  go_wp2_with (fail)
  refine (solved_any k n l1 A1 c1 _ HS.out (Kd.C_below HR1.out HB.out) HC1.out s1 s2 HSOL.out).mono ?_
  rintro e w3 ⟨vs, rfl, hvs, hb⟩
  have HB := Aside0.mk (below_step HB.out hb)
  obtain ⟨As, cs, hvs2⟩ := Kd.V_slice hvs
  subst hvs2
  have HVS := Aside0.mk (Kd.V_reads' hvs)
  clear hvs hb HSOL hd
  have H2 := H.out
  by_cases h5 : s2 = 0
  case neg =>
    rw [if_neg h5] at H2
    obtain ⟨rfl, rfl⟩ := Prod.mk.inj (Option.some.inj H2)
    have hd5 : (s2 != 0) = true := by simpa using h5
    clear H2 H h5
    go_wp2
    (try simp only [Exit.inBlock, Exit.then])
    refine bodyPost_ret (results_list (rs := [.tmp 8, .tmp 9]) rfl (by simp) (.tmp (.tmp .nil))) rfl ?_
    exact ⟨_, rfl, Kd.R_nil _ _ _ _ _, HB.out⟩
  rw [if_pos h5] at H2
  subst h5
  replace H := Aside0.mk H2
  clear H2
  obtain ⟨kq, hkq⟩ : ∃ kq, slices_Equal_int_int.f kq s1 l2 = some (decide (s1 = l2)) := ⟨_, equal_eq s1 l2 HVS.out.2.2.2.1⟩
  have HEQ := Aside0.mk hkq
  clear hkq
  go_wp2_with (fail)
  refine (slices_Equal_int_int.calls kq As cs s1 A2 c2 l2 (decide (s1 = l2)) _ HVS.out.2.2 HVS.out.2.1 (Kd.C_below HR2.out HB.out) HC2.out HEQ.out).mono ?_
  rintro e w4 ⟨rfl, hd⟩
  have HB := Aside0.mk (below_step HB.out (drawnE hd))
  clear hd HEQ HVS
  have H2 := H.out
  by_cases hq : s1 = l2
  case neg =>
    rw [if_neg hq] at H2
    obtain ⟨rfl, rfl⟩ := Prod.mk.inj (Option.some.inj H2)
    rw [decide_eq_false hq]
    clear H2 H hq
    go_wp2
    (try simp only [Exit.inBlock, Exit.then])
    refine bodyPost_ret (results_list (rs := [.tmp 8, .tmp 9]) rfl (by simp) (.tmp (.tmp .nil))) rfl ?_
    exact ⟨_, rfl, Kd.R_nil _ _ _ _ _, HB.out⟩
  rw [if_pos hq] at H2
  rw [decide_eq_true hq]
  clear hq
  by_cases hin : l2.length = n ∧ ∀ v ∈ l2, 0 ≤ v ∧ v ≤ 2000000
  case neg => rw [if_neg hin] at H2; cases H2
  rw [if_pos hin] at H2
  replace H := Aside0.mk H2
  have HIN := Aside0.mk hin
  clear H2 hin
  go_wp2_with (fail)
  refine (cloneI A2 c2 l2 _ (Kd.C_below HR2.out HB.out) HC2.out (by have := HIN.out.1; have := HS.out.n1; omega)).mono ?_
  rintro e w5 ⟨v, rfl, hv, hb⟩
  obtain ⟨A5, c5, hv2⟩ := Kd.R_slice hv
  subst hv2
  have HZ := HB.out.size
  have HB := Aside0.mk (below_step HB.out hb)
  have HO := Aside0.mk (Kd.R_lower hv HZ)
  have HOL := Aside0.mk (Kd.R_lt hv)
  have HOB := Aside0.mk (fun k_ hk_ => Nat.le_trans HZ (Kd.R_base hv k_ hk_))
  have HW5 := Aside0.mk HB.out.size
  clear hv hb HZ
  have BN := Aside0.mk (blk_new w5 (.cells #[.slice A1 l1.length c1, .slice A3 l3.length c3] 22))
  have HO := Aside0.mk (Kd.R_below HO.out (below_alloc (Below.refl _ _) (.cells #[.slice A1 l1.length c1, .slice A3 l3.length c3] 22)))
  have HB := Aside0.mk (below_alloc HB.out (.cells #[.slice A1 l1.length c1, .slice A3 l3.length c3] 22))
  go_wp2_with (fail)
  refine (concatL A1 c1 l1 A3 c3 l3 w5.heap.size _ BN.out (fun k_ => k_ < w.heap.size) (fun k_ hk => Nat.lt_of_lt_of_le hk HB.out.size) (Kd.F_below (Kd.C_F k44_heap HR1.out) HB.out) (Kd.F_below (Kd.C_F k44_heap HR3.out) HB.out) (by omega) (by omega)).mono ?_
  rintro e w6 ⟨A6, c6, rfl, hF, hc6, hb⟩
  have HO := Aside0.mk (Kd.R_below HO.out hb)
  have HF := Aside0.mk (Kd.F_mono (ok' := fun k_ => k_ < w.heap.size ∨ w5.heap.size ≤ k_) hF (fun k_ hk => hk.elim .inl (fun h => .inr (Nat.le_trans (by simp) h))))
  have HC6 := Aside0.mk hc6
  have HB := Aside0.mk (below_step HB.out hb)
  clear hF hc6 hb BN
  obtain ⟨all, hall⟩ : ∃ all, all = l1 ++ l3 := ⟨_, rfl⟩
  rw [← hall] at HF HC6 H ⊢
  have HAL := Aside0.mk (show all.length ≤ 6000 by rw [hall, List.length_append]; omega)
  have HFIT := Aside0.mk (show ∀ c ∈ all, FitOk n c from fun c hc => by
    rw [hall] at hc
    rcases List.mem_append.1 hc with hc | hc
    · exact HS.out.fit c hc
    · exact HS3.out.fit c hc)
  have HO0 := Aside0.mk (show OutOk n l2 2000000 from ⟨HIN.out.1, fun v => by
    by_cases hv : v < l2.length
    · rw [List.getD_eq_getElem?_getD, List.getElem?_eq_getElem hv]
      exact HIN.out.2 _ (List.getElem_mem hv)
    · rw [List.getD_eq_getElem?_getD, List.getElem?_eq_none (by omega)]
      exact ⟨Int.le_refl _, by decide⟩⟩)
  have hn := HS.out.n1
  clear hall HIN HS HS3 HR1 HC1 HR2 HC2 HR3 HC3 H30 hl1 hl3 M1 M3
  go_wp2
  obtain ⟨ln, hln⟩ : ∃ ln, ln = l2.length := ⟨_, rfl⟩
  rw [← hln] at HO HOL HOB ⊢
  have HLN := Aside0.mk hln
  clear hln
  go_loopg [14] (n + 4) (fun kq v14 w' => ∃ (rd : Nat) (out : List Int), v14 = .int .i64 (rd : Int) ∧ Aside0 (kq + rd = n + 4) ∧ Aside0 (extG n all (n + 5 - rd) rd out = some (r1, r2)) ∧ Aside0 (OutOk n out (2000000 + 6000000 * (rd : Int))) ∧ Aside0 ((Kd.int .i64).R 3 w' w.heap.size (fun _ => True) (.slice A5 ln c5) out) ∧
    Aside0 (Kd.F k44 w' (fun k_ => k_ < w.heap.size ∨ w5.heap.size ≤ k_) A6 all.length all) ∧ Aside0 (Below w.heap.size w w'))
  case atStart => exact ⟨0, l2, rfl, ⟨rfl⟩, H, HO0, HO, HF, HB⟩
  case round =>
    clear HO HF HB HO0 H
    obtain ⟨rd, out, rfl, HK, H, HO0, HO, HF, HB⟩ := hrel
    have hrd : rd ≤ n + 4 := by have := HK.out; omega
    have H2 := H.out
    rw [show n + 5 - rd = (n + 4 - rd) + 1 by omega] at H2
    simp only [extG] at H2
    replace H := Aside0.mk H2
    have HM6 := Aside0.mk (show all.length ≤ 9223372036854775807 by have := HAL.out; omega)
    have hm6 := HM6.out
    clear H2
    go_wp2
    go_step3
    go_wp2
    go_step3
    go_wp2
    go_loopg [15, 63] all.length (fun kq v15 v63 w' => ∃ (i : Nat) (o : List Int) (rz : Bool), v63 = .int .i64 (i : Int) ∧ v15 = .bool rz ∧ Aside0 (kq + i = all.length) ∧ Aside0 (extL n (all.drop i) o rz = extL n all out false) ∧ Aside0 (OutOk n o (2000000 + 6000000 * (rd : Int) + 1000 * (i : Int))) ∧
      Aside0 ((Kd.int .i64).R 3 w' w.heap.size (fun _ => True) (.slice A5 ln c5) o) ∧ Aside0 (Kd.F k44 w' (fun k_ => k_ < w.heap.size ∨ w5.heap.size ≤ k_) A6 all.length all) ∧ Aside0 (Below w.heap.size w w'))
    case atStart => exact ⟨0, out, false, rfl, rfl, ⟨rfl⟩, ⟨rfl⟩, ⟨HO0.out.more (by omega)⟩, HO, HF, HB⟩
    case round =>
      clear HO HF HB HO0
      obtain ⟨i, o, rz, rfl, rfl, HI, HE, HO0, HO, HF, HB⟩ := hrel
      by_cases hlt : i < all.length
      · obtain ⟨ad, A7, c7, A9, c9, e1, q1, q2, q3, q4, k1, g1, k3, g3⟩ := at_T44 (Kd.F_now HF.out) (i : Int) (by omega) (by omega)
        cases e1
        rw [Int.toNat_natCast] at q1 q2 q3 q4
        have HDR := Aside0.mk (dropLCon hlt)
        have HCF := Aside0.mk (HFIT.out (rd_T44 all (i : Int)) (mem_rd44 (by omega) (by omega)))
        have HE1 := HE.out
        rw [HDR.out] at HE1
        obtain ⟨cc, hcc⟩ : ∃ cc, cc = rd_T44 all (i : Int) := ⟨_, rfl⟩
        rw [← hcc] at q1 q2 q3 q4 k1 g1 k3 g3 HCF HE1
        clear hcc HDR
        obtain ⟨p1, p2, hp⟩ : ∃ p1 p2, bndOf (n : Int) cc.f1 = (p1, p2) := ⟨_, _, rfl⟩
        have hbd := bnd_ok HCF.out (Int.natCast_nonneg n)
        have hbe := bound_eq (n : Int) cc.f1
        simp only [extL] at HE1
        rw [hp] at hbd hbe HE1
        obtain ⟨hp0, hp1, hp2, hp3⟩ := hbd
        dsimp only at hp0 hp1 hp2 hp3
        obtain ⟨t, rfl⟩ := Int.eq_ofNat_of_zero_le hp0
        have htn : t ≤ n := by omega
        have hB0 : 2000000 + 6000000 * (rd : Int) + 1000 * (i : Int) ≤ 3000000000000 := by have := HAL.out; omega
        obtain ⟨hso, hs0, hs1⟩ := HO0.out.side hB0 HCF.out
        have HBE := Aside0.mk hbe
        have HSO := Aside0.mk hso
        obtain ⟨sd, hsd⟩ : ∃ sd, sd = sideB cc.f0 o := ⟨_, rfl⟩
        rw [← hsd] at hs0 hs1 HE1
        have HSD := Aside0.mk hsd
        have HEE := Aside0.mk HE1
        have G1 := Aside0.mk g1
        have G3 := Aside0.mk g3
        have L1 := Aside0.mk k1
        have L3 := Aside0.mk k3
        have hab := below_alloc (Below.refl wr.heap.size wr) (.cells #[.int .i64 cc.f0.f0, .slice A7 cc.f0.f1.length c7, .int .i64 cc.f1.f0, .slice A9 cc.f1.f1.length c9] 44)
        have BT := Aside0.mk (blk_new wr (.cells #[.int .i64 cc.f0.f0, .slice A7 cc.f0.f1.length c7, .int .i64 cc.f1.f0, .slice A9 cc.f1.f1.length c9] 44))
        have HB2 := Aside0.mk (below_step HB.out hab)
        have HO2 := Aside0.mk (Kd.R_below HO.out hab)
        have HF2 := Aside0.mk (Kd.F_below HF.out hab)
        have HW := Aside0.mk hab
        clear hab HE1 hsd hso hbe hp HB HO HF k1 k3 g1 g3 HE
        go_wp2_with (fail)
        refine (graph_bound.calls (n : Int) cc.f1.f0 A9 c9 cc.f1.f1 (t : Int) p2 _ (Kd.C_below G3.out HW.out) L3.out HBE.out).mono ?_
        rintro e w8 ⟨rfl, hb⟩
        clear q1 q2 q3 q4
        have BT := Aside0.mk (blk_below BT.out hb)
        have HB2 := Aside0.mk (below_step HB2.out hb)
        have HO2 := Aside0.mk (Kd.R_below HO2.out hb)
        have HF2 := Aside0.mk (Kd.F_below HF2.out hb)
        have HW := Aside0.mk (below_step HW.out hb)
        clear hb HBE
        have z0 := (blk_cell BT.out 0).trans rfl
        have z1 := (blk_cell BT.out 1).trans rfl
        go_wp2_with (fail)
        have hlen := (Kd.R_reads' HO2.out).1
        obtain rfl : ln = o.length := hlen
        refine (side_any cc.f0 A7 c7 A5 c5 o _ (Kd.C_below G1.out HW.out) L1.out (Kd.R_reads' HO2.out).2.2 (Kd.R_reads' HO2.out).2.1 HSO.out).mono ?_
        rintro e w9 ⟨rfl, hb⟩
        rw [← HSD.out]
        have HB2 := Aside0.mk (below_step HB2.out hb)
        have HO2 := Aside0.mk (Kd.R_below HO2.out hb)
        have HF2 := Aside0.mk (Kd.F_below HF2.out hb)
        clear hb z0 z1 BT HW HSD HSO G1 G3 L1 L3 HCF
        have hHO := HO0.out
        by_cases htn2 : (t : Int) = (n : Int)
        · have HE2 := HEE.out
          rw [if_pos htn2] at HE2
          have hd1 : ((t : Int) == (n : Int)) = true := beq_iff_eq.2 htn2
          by_cases hpos : 0 < sd - p2
          · rw [if_pos hpos] at HE2
            have H2 := H.out
            rw [← HE2] at H2
            dsimp only at H2
            obtain ⟨rfl, rfl⟩ := Prod.mk.inj (Option.some.inj H2)
            have hd2 : decide (0 < sd - p2) = true := decide_eq_true hpos
            clear H H2 HE2 HEE htn2
            go_wp2
            (try simp only [Exit.noGoto_normal, Exit.noGoto_exit, Exit.inBlock, Exit.then])
            (try go_wp2)
            (try simp only [Exit.noGoto_ret, Exit.noGoto_normal, Exit.inBlock, Exit.then])
            (try simp only [Exit.inBlock, Exit.then])
            refine bodyPost_ret (results_list (rs := [.tmp 8, .tmp 9]) rfl (by simp) (.tmp (.tmp .nil))) rfl ?_
            exact ⟨_, rfl, Kd.R_nil _ _ _ _ _, HB2.out⟩
          · rw [if_neg hpos] at HE2
            have HEN := Aside0.mk HE2
            have hd2 : decide (0 < sd - p2) = false := decide_eq_false hpos
            clear HE2 HEE htn2
            go_wp2
            (try simp only [Exit.noGoto_normal, Exit.noGoto_exit, Exit.inBlock, Exit.then])
            (try go_wp2)
            (try simp only [Exit.noGoto_ret, Exit.noGoto_normal, Exit.inBlock, Exit.then])
            go_roundg (all.length - i - 1)
            case measure => have := HI.out; omega
            case rel => exact ⟨i + 1, o, rz, by go_num, rfl, ⟨by omega⟩, HEN, ⟨hHO.more (by omega)⟩, HO2, HF2, HB2⟩
        · have HE2 := HEE.out
          rw [if_neg htn2, Int.toNat_natCast] at HE2
          have hd1 : ((t : Int) == (n : Int)) = false := beq_eq_false_iff_ne.2 htn2
          have htl : t < o.length := by have := hHO.1; omega
          obtain ⟨b5, cap5, hv5, hb5, hl5, _⟩ := Kd.R_form HO2.out (by omega)
          injection hv5 with hA5 _ hc5
          subst hA5
          subst hc5
          have hb51 := HOB.out b5 rfl
          have hb52 := HOL.out b5 rfl
          obtain ⟨z5, f5⟩ := Kd.R_celln 0 HO2.out (t : Int) (by omega) (by omega)
          have HP5 := (Kd.R_putg HO2.out (t : Int) (sd - p2)).1
          rw [Int.toNat_natCast] at z5 f5 HP5
          replace z5 : w9.cell? ⟨b5, t, none⟩ = some (.int .i64 (o.getD t 0)) := by have h9 : w9.cell? ⟨b5, t, none⟩ = some (.int .i64 (o.getD (t : Int).toNat 0)) := z5; rw [Int.toNat_natCast] at h9; exact h9
          have HP := Aside0.mk HP5
          clear HP5 hb5 hl5
          by_cases hle : sd - p2 ≤ o.getD t 0
          · rw [if_pos hle] at HE2
            have HEN := Aside0.mk HE2
            have hd2 : decide (sd - p2 ≤ o.getD t 0) = true := decide_eq_true hle
            clear HE2 HEE htn2 HP hb51 hb52
            generalize o.getD t 0 = ot at z5 hd2 hle
            go_wp2
            (try simp only [Exit.noGoto_normal, Exit.noGoto_exit, Exit.inBlock, Exit.then])
            (try go_wp2)
            (try simp only [Exit.noGoto_ret, Exit.noGoto_normal, Exit.inBlock, Exit.then])
            go_roundg (all.length - i - 1)
            case measure => have := HI.out; omega
            case rel => exact ⟨i + 1, o, rz, by go_num, rfl, ⟨by omega⟩, HEN, ⟨hHO.more (by omega)⟩, HO2, HF2, HB2⟩
          · rw [if_neg hle] at HE2
            have HEN := Aside0.mk HE2
            have hd2 : decide (sd - p2 ≤ o.getD t 0) = false := decide_eq_false hle
            have h00 := (hHO.2 t).1
            have HON := Aside0.mk (hHO.set t (sd - p2) (by omega) (by omega))
            have HFN := Aside0.mk (Kd.F_step (W1 := w9.setCell ⟨b5, t, none⟩ (.int .i64 (sd - p2))) HF2.out (fun k_ hk _ => Below.heap_setCell w9 ⟨b5, t, none⟩ (.int .i64 (sd - p2)) k_ (fun e_ => by have e2 : k_ = b5 := e_; subst e2; rcases hk with hk | hk <;> omega)))
            have HBN := Aside0.mk (below_set (j := t) (v := .int .i64 (sd - p2)) HB2.out hb51)
            have HLS := Aside0.mk (show (o.set t (sd - p2)).length = o.length from List.length_set)
            clear HE2 HEE htn2 hb51 hb52 HO2 HF2 HB2
            generalize o.getD t 0 = ot at z5 hd2 hle h00
            clear HLS
            go_wp2
            (try simp only [Exit.noGoto_normal, Exit.noGoto_exit, Exit.inBlock, Exit.then])
            (try go_wp2)
            (try simp only [Exit.noGoto_ret, Exit.noGoto_normal, Exit.inBlock, Exit.then])
            go_roundg (all.length - i - 1)
            case measure => have := HI.out; omega
            case rel => exact ⟨i + 1, o.set t (sd - p2), true, by go_num, rfl, ⟨by omega⟩, HEN, ⟨HON.out.more (by omega)⟩, HP, HFN, HBN⟩
      · have HE2 := Aside0.mk (show extL n all out false = some (o, rz) by rw [← HE.out, List.drop_eq_nil_of_le (by omega)]; rfl)
        have H2 := H.out
        rw [HE2.out] at H2
        dsimp only at H2
        have hi6 : i = all.length := by have := HI.out; omega
        have HB6 := Aside0.mk (show i ≤ 6000 by have := HAL.out; omega)
        cases rz with
        | false =>
          rw [if_pos rfl] at H2
          obtain ⟨rfl, rfl⟩ := Prod.mk.inj (Option.some.inj H2)
          clear H H2 HE2 HE hi6
          go_wp2
          (try simp only [Exit.noGoto_normal, Exit.noGoto_exit, Exit.inBlock, Exit.then])
          (try go_wp2)
          (try simp only [Exit.noGoto_ret, Exit.noGoto_normal, Exit.inBlock, Exit.then])
          (try simp only [Exit.inBlock, Exit.then])
          refine bodyPost_ret (results_list (rs := [.tmp 8, .tmp 9]) rfl (by simp) (.tmp (.tmp .nil))) rfl ?_
          exact ⟨_, rfl, HO.out, HB.out⟩
        | true =>
          rw [if_neg (by decide)] at H2
          by_cases hrn : n + 1 < rd
          · rw [if_pos hrn] at H2
            obtain ⟨rfl, rfl⟩ := Prod.mk.inj (Option.some.inj H2)
            have hd : decide ((n : Int) + 1 < (rd : Int)) = true := decide_eq_true (by omega)
            clear H H2 HE2 HE hi6 hrn
            go_wp2
            (try simp only [Exit.noGoto_normal, Exit.noGoto_exit, Exit.inBlock, Exit.then])
            (try go_wp2)
            (try simp only [Exit.noGoto_ret, Exit.noGoto_normal, Exit.inBlock, Exit.then])
            (try simp only [Exit.inBlock, Exit.then])
            refine bodyPost_ret (results_list (rs := [.tmp 8, .tmp 9]) rfl (by simp) (.tmp (.tmp .nil))) rfl ?_
            exact ⟨_, rfl, Kd.R_nil _ _ _ _ _, HB.out⟩
          · rw [if_neg hrn, show n + 4 - rd = n + 5 - (rd + 1) by omega] at H2
            have hd : decide ((n : Int) + 1 < (rd : Int)) = false := decide_eq_false (by omega)
            have HN := Aside0.mk H2
            have HRN := Aside0.mk (show rd ≤ n + 1 by omega)
            clear H H2 HE2 HE hi6 hrn
            go_wp2
            (try simp only [Exit.noGoto_normal, Exit.noGoto_exit, Exit.inBlock, Exit.then])
            (try go_wp2)
            (try simp only [Exit.noGoto_ret, Exit.noGoto_normal, Exit.inBlock, Exit.then])
            go_roundg (n + 4 - (rd + 1))
            case measure => have := HK.out; have := HRN.out; omega
            case rel => exact ⟨rd + 1, o, by go_num, ⟨by have := HRN.out; omega⟩, HN, ⟨HO0.out.more (by have := HB6.out; omega)⟩, HO, HF, HB⟩
end Go.Proofs.Ytegejpcglabhbaa.G
