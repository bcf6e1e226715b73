/- Hand-made contract: graph.Holds. -/
import Derived.Test.YtegejpcglabhbaaGHs
import Derived.Test.YtegejpcglabhbaaGf58
namespace Go.Proofs.Ytegejpcglabhbaa.G
open Go.RowKit Go.Proofs.YtegejpcglabhbaaW.PrintWords Go.Proofs.YtegejpcglabhbaaW.PrintLast Go.Proofs.YtegejpcglabhbaaW.PrintMore
set_option linter.unusedVariables false
set_option linter.unusedSimpArgs false

/-- What is asked of a predicate that is handed on. -/
def PredLConIn (l : List S44) (g : Nat) (cap : Array Value) (p : S44 → Bool) (w : World) : Prop :=
  ∀ (x : S44), x ∈ l → ∀ (A1 : Option Addr) (c1 : Nat) (A3 : Option Addr) (c3 : Nat) (W : World), Below w.heap.size w W → x.f0.f1.length ≤ c1 → Kd.C k96 W A1 x.f0.f1.length x.f0.f1 → x.f1.f1.length ≤ c3 → Kd.C k96 W A3 x.f1.f1.length x.f1.f1 → Calls Try.prog g (#[.agg #[.int .i64 x.f0.f0, .slice A1 x.f0.f1.length c1, .int .i64 x.f1.f0, .slice A3 x.f1.f1.length c3]] ++ cap) W fun e W' => e = .returned (.bool (p x)) ∧ Below W.heap.size W W'
set_option maxHeartbeats 1000000 in
set_option maxRecDepth 100000 in
theorem idxLConIn (g : Nat) (cap : Array Value) (he : ∀ (args : Array Value) (W : World), (callFunc g args).run Try.prog W = .ok (.enter g args) W) (p : S44 → Bool) (A : Option Addr) (c : Nat) (l : List S44) (w : World) (hr : Kd.C k44 w A l.length l) (hc : l.length ≤ c)
    (hp : PredLConIn l g cap p w) :
    Calls Try.prog 56 #[.slice A l.length c, .func (.func g) #[] cap] w fun e w' => e = .returned (.int .i64 (idxB p l 0)) ∧ Below w.heap.size w w' := by
  have HR := Aside0.mk hr
  have HC := Aside0.mk hc
  have HP := Aside0.mk hp
  clear hr hc hp
  have HB := Aside0.mk (Below.refl w.heap.size w)
  go_enter Try.func56, Try.ntmps56
  go_wp2
  go_loopg [5, 8] l.length (fun kq v5 v8 w' => ∃ (i : Nat), v8 = .int .i64 i ∧ Aside0 (kq + i = l.length) ∧ Aside0 (idxB p (l.drop i) i = idxB p l 0) ∧ Aside0 (Below w.heap.size w w'))
  case atStart => exact ⟨0, rfl, ⟨rfl⟩, ⟨by simp⟩, HB⟩
  case round =>
    clear HB
    obtain ⟨i, rfl, HK, HI, HB⟩ := hrel
    have hm : l.length ≤ 9223372036854775807 := HR.out.2.1
    by_cases hlt : i < l.length
    · have HD := Aside0.mk (dropLCon hlt)
      obtain ⟨ad, A1, c1, A3, c3, e, h0, h1, h2, h3, l1, g1, l3, g3⟩ := at_T44 HR.out (i : Int) (by omega) (by omega)
      cases e
      replace h0 := (HB.out.cell (World.block_lt_of_cell? w _ h0)).trans h0
      replace h1 := (HB.out.cell (World.block_lt_of_cell? w _ h1)).trans h1
      replace h2 := (HB.out.cell (World.block_lt_of_cell? w _ h2)).trans h2
      replace h3 := (HB.out.cell (World.block_lt_of_cell? w _ h3)).trans h3
      have G1 := Aside0.mk (Kd.C_below g1 HB.out)
      have G3 := Aside0.mk (Kd.C_below g3 HB.out)
      have L1 := Aside0.mk l1
      have L3 := Aside0.mk l3
      clear g1 g3 l1 l3
      simp only [Int.toNat_natCast] at h0 h1 h2 h3
      go_wp2_with (fail)
      refine (HP.out (rd_T44 l i) (mem_rd44 (by omega) (by omega)) A1 c1 A3 c3 _ HB.out L1.out G1.out L3.out G3.out).mono ?_
      rintro e w' ⟨rfl, hb⟩
      have HB' := Aside0.mk (below_step HB.out hb)
      clear h0 h1 h2 h3 hb G1 G3 L1 L3
      have HE : idxB p (l.drop i) i = if p (rd_T44 l i) = true then (i : Int) else idxB p (l.drop (i + 1)) (i + 1) := by rw [HD.out]; rfl
      have HE := Aside0.mk HE
      cases hpx : p (rd_T44 l i)
      · go_wp2
        go_roundg (l.length - i - 1)
        case measure => have := HK.out; omega
        case rel => exact ⟨i + 1, by go_num, ⟨by omega⟩, ⟨by have := HE.out; rw [hpx, if_neg (by decide)] at this; rw [← this]; exact HI.out⟩, HB'⟩
      · go_wp2
        go_ret
        exact ⟨ret_int (by have := HE.out; rw [hpx, if_pos rfl] at this; rw [← HI.out, this]), HB'.out⟩
    · go_wp2
      go_ret
      exact ⟨ret_int (by rw [← HI.out, List.drop_eq_nil_of_le (by omega)]; rfl), HB.out⟩


/-- The value of a level for numbers. -/
def sideB (a : S41) (vals : List Int) : Int := a.f1.foldl (fun m v => max m (vals.getD v.f0.toNat 0 + v.f1)) a.f0
/-- A level that numbers suit. -/
def SideOk (a : S41) (vals : List Int) : Prop := a.f1.length ≤ 1000 ∧ ∀ v ∈ a.f1, 0 ≤ v.f0 ∧ v.f0 < vals.length ∧ -4000000000000 ≤ vals.getD v.f0.toNat 0 + v.f1 ∧ vals.getD v.f0.toNat 0 + v.f1 ≤ 4000000000000
theorem side_l0 (l : List S96) (vals : List Int) (hl : l.length ≤ 1000) (hv : ∀ v ∈ l, 0 ≤ v.f0 ∧ v.f0 < vals.length ∧ -4000000000000 ≤ vals.getD v.f0.toNat 0 + v.f1 ∧ vals.getD v.f0.toNat 0 + v.f1 ≤ 4000000000000) :
    ∀ (d i k : Nat) (m : Int), d + i = l.length → d < k → graph_side.l0 k vals m l (l.length : Int) (i : Int) = some ((l.drop i).foldl (fun m v => max m (vals.getD v.f0.toNat 0 + v.f1)) m) := by
  intro d
  induction d with
  | zero =>
    intro i k m hd hk
    obtain ⟨k, rfl⟩ : ∃ m, k = m + 1 := ⟨k - 1, by omega⟩
    simp only [graph_side.l0]
    rw [if_neg (by omega), List.drop_eq_nil_of_le (by omega)]
    rfl
  | succ d ih =>
    intro i k m hd hk
    obtain ⟨k, rfl⟩ : ∃ m, k = m + 1 := ⟨k - 1, by omega⟩
    have hil : i < l.length := by omega
    have e : rd_T96 l (i : Int) = l[i] := by simp [rd_T96, List.getD_eq_getElem?_getD, List.getElem?_eq_getElem hil]
    have h := hv l[i] (List.getElem_mem hil)
    simp only [graph_side.l0, e]
    have hw : wrap64 ((i : Int) + 1) = ((i + 1 : Nat) : Int) := by unfold wrap64; omega
    have hw2 : wrap64 (rd vals l[i].f0 + l[i].f1) = vals.getD l[i].f0.toNat 0 + l[i].f1 := by
      show wrap64 (vals.getD l[i].f0.toNat 0 + l[i].f1) = _
      unfold wrap64
      omega
    rw [if_pos (by omega), if_pos (by omega), if_pos (by omega), if_pos (by omega), if_pos (by omega), hw, hw2]
    refine (ih (i + 1) k _ (by omega) (by omega)).trans ?_
    rw [List.drop_eq_getElem_cons hil, List.foldl_cons]
    congr 2
    unfold mx
    omega
theorem side_eq {a : S41} {vals : List Int} (h : SideOk a vals) (k : Nat) (hk : 1001 ≤ k) : graph_side.f k a.f0 a.f1 vals = some (sideB a vals) := by
  unfold graph_side.f
  have := side_l0 a.f1 vals h.1 h.2 a.f1.length 0 k a.f0 (by omega) (by have := h.1; omega)
  exact this
theorem side_any (a : S41) (A : Option Addr) (c : Nat) (A1 : Option Addr) (c1 : Nat) (vals : List Int) (w : World) (hr : Kd.C k96 w A a.f1.length a.f1) (hc : a.f1.length ≤ c) (hr1 : Kd.C (Kd.int .i64) w A1 vals.length vals) (hc1 : vals.length ≤ c1) (h : SideOk a vals) :
    Calls Try.prog 58 #[.agg #[.int .i64 a.f0, .slice A a.f1.length c], .slice A1 vals.length c1] w fun e w' => e = .returned (.int .i64 (sideB a vals)) ∧ Below w.heap.size w w' :=
  graph_side.calls 1001 a.f0 A c a.f1 A1 c1 vals _ w hr hc hr1 hc1 (side_eq h 1001 (Nat.le_refl _))
/-- Does a constraint not hold? -/
def brokenB (vals : List Int) (x : S44) : Bool := decide (sideB x.f1 vals < sideB x.f0 vals)
set_option maxHeartbeats 2000000 in
set_option maxRecDepth 100000 in
theorem holds2 (l : List S44) (b : Nat) (A : Option Addr) (c : Nat) (vals : List Int) (w : World) (hb : b < w.heap.size) (hcell : w.cell? ⟨b, 0, none⟩ = some (.slice A vals.length c)) (hr : Kd.C (Kd.int .i64) w A vals.length vals) (hc : vals.length ≤ c) (hs : ∀ x ∈ l, SideOk x.f0 vals ∧ SideOk x.f1 vals) :
    PredLConIn l 57 #[.pointer (some ⟨b, 0, none⟩)] (brokenB vals) w := by
  intro x hx A1 c1 A3 c3 W hB l1 g1 l3 g3
  have h := (hB.cell (p := ⟨b, 0, none⟩) hb).trans hcell
  have hlt : b < W.heap.size := Nat.lt_of_lt_of_le hb hB.size
  have hu := Try.underlying44
  have hu41 := Try.underlying41
  have HR := Aside0.mk (Kd.C_below hr hB)
  have HC := Aside0.mk hc
  have G1 := Aside0.mk g1
  have G3 := Aside0.mk g3
  have L1 := Aside0.mk l1
  have L3 := Aside0.mk l3
  have HS := Aside0.mk (hs x hx)
  clear hB hb g1 g3 l1 l3 hr hc hs hx hcell
  have BX := Aside0.mk (blk_new W (.cells #[.int .i64 x.f0.f0, .slice A1 x.f0.f1.length c1, .int .i64 x.f1.f0, .slice A3 x.f1.f1.length c3] 44))
  have BV := Aside0.mk (h)
  have HL := Aside0.mk hlt
  have BV2 := Aside0.mk ((((Below.refl W.heap.size W).alloc (Nat.le_refl _) (.cells #[.int .i64 x.f0.f0, .slice A1 x.f0.f1.length c1, .int .i64 x.f1.f0, .slice A3 x.f1.f1.length c3] 44)).cell (p := ⟨b, 0, none⟩) hlt).trans h)
  clear h hlt
  go_enter Try.func57, Try.ntmps57
  go_wp2_with (fail)
  refine start_ (n := 10) (S := fun w' => w'.heap[W.heap.size]? = some (.cells #[.int .i64 x.f0.f0, .slice A1 x.f0.f1.length c1, .int .i64 x.f1.f0, .slice A3 x.f1.f1.length c3] 44 (0, 0)) ∧ w'.cell? ⟨b, 0, none⟩ = some (.slice A vals.length c) ∧ Below W.heap.size W w') (ds := []) #[false, false, false, false, false, false, false, false, false, false] (by kernel_rfl) rfl rfl ⟨BX.out, BV2.out, below_drew ((Below.refl _ _).alloc (Nat.le_refl _) _)⟩ (fun hHeld => ?_)
  refine pure_ (i := 0) (N := some 4) (v := ?_) (a' := ?_) #[true, false, false, false, false, false, false, false, false, false] rfl rfl (by kernel_rfl) (fun _ _ _ h => h) (Or.inl ⟨by rfl, ?_⟩) ?_ ?_
  rotate_left
  · intro w'
    go_simp
    with_reducible rfl
  rotate_left
  · simp only [Act.put, List.setIfInBounds_toArray, List.set_cons_zero, List.set_cons_succ, i64_w, i32_w]
    rfl
  refine take_ (i := 1) (N := some 5) (v := ?_) (a' := ?_) #[true, true, false, false, false, false, false, false, false, false] rfl rfl (by kernel_rfl) (fun _ _ _ h => h) (Or.inl ⟨by rfl, ?_⟩) hHeld ?_ ?_
  rotate_left
  · rintro w' ⟨s0, s1, s2⟩
    have z0 := (blk_cell s0 0).trans rfl
    have z1 := (blk_cell s0 1).trans rfl
    have z2 := (blk_cell s0 2).trans rfl
    have z3 := (blk_cell s0 3).trans rfl
    go_simp
    with_reducible rfl
  rotate_left
  · simp only [Act.put, List.setIfInBounds_toArray, List.set_cons_zero, List.set_cons_succ, i64_w, i32_w]
    rfl
  refine take_ (i := 2) (N := some 6) (v := ?_) (a' := ?_) #[true, true, true, false, false, false, false, false, false, false] rfl rfl (by kernel_rfl) (fun _ _ _ h => h) (Or.inl ⟨by rfl, ?_⟩) hHeld ?_ ?_
  rotate_left
  · rintro w' ⟨s0, s1, s2⟩
    have z0 := (blk_cell s0 0).trans rfl
    have z1 := (blk_cell s0 1).trans rfl
    have z2 := (blk_cell s0 2).trans rfl
    have z3 := (blk_cell s0 3).trans rfl
    go_simp
    with_reducible rfl
  rotate_left
  · simp only [Act.put, List.setIfInBounds_toArray, List.set_cons_zero, List.set_cons_succ, i64_w, i32_w]
    rfl
  refine pure_ (i := 4) (N := some 8) (v := ?_) (a' := ?_) #[true, true, true, false, true, false, false, false, false, false] rfl rfl (by kernel_rfl) (fun _ _ _ h => h) (Or.inl ⟨by rfl, ?_⟩) ?_ ?_
  rotate_left
  · intro w'
    go_simp
    with_reducible rfl
  rotate_left
  · simp only [Act.put, List.setIfInBounds_toArray, List.set_cons_zero, List.set_cons_succ, i64_w, i32_w]
    rfl
  refine take_ (i := 5) (N := some 9) (v := ?_) (a' := ?_) #[true, true, true, false, true, true, false, false, false, false] rfl rfl (by kernel_rfl) (fun _ _ _ h => h) (Or.inl ⟨by rfl, ?_⟩) hHeld ?_ ?_
  rotate_left
  · rintro w' ⟨s0, s1, s2⟩
    have z0 := (blk_cell s0 0).trans rfl
    have z1 := (blk_cell s0 1).trans rfl
    have z2 := (blk_cell s0 2).trans rfl
    have z3 := (blk_cell s0 3).trans rfl
    go_simp
    with_reducible rfl
  rotate_left
  · simp only [Act.put, List.setIfInBounds_toArray, List.set_cons_zero, List.set_cons_succ, i64_w, i32_w]
    rfl
  refine take_ (i := 6) (N := some 10) (v := ?_) (a' := ?_) #[true, true, true, false, true, true, true, false, false, false] rfl rfl (by kernel_rfl) (fun _ _ _ h => h) (Or.inl ⟨by rfl, ?_⟩) hHeld ?_ ?_
  rotate_left
  · rintro w' ⟨s0, s1, s2⟩
    have z0 := (blk_cell s0 0).trans rfl
    have z1 := (blk_cell s0 1).trans rfl
    have z2 := (blk_cell s0 2).trans rfl
    have z3 := (blk_cell s0 3).trans rfl
    go_simp
    with_reducible rfl
  rotate_left
  · simp only [Act.put, List.setIfInBounds_toArray, List.set_cons_zero, List.set_cons_succ, i64_w, i32_w]
    rfl
  refine one_ (i := 3) (N := some 7) #[true, true, true, true, true, true, true, false, false, false] rfl rfl (by kernel_rfl) (by decide) (fun K hK => ?_)
  refine goes_ Try.func58 (by kernel_rfl) rfl #[.agg #[.int .i64 x.f0.f0, .slice A1 x.f0.f1.length c1], .slice A vals.length c] (by rfl) rfl rfl (by (try simp only [List.map_toArray, List.map_cons, List.map_nil]); first | done | rfl) ?_
  refine (side_any x.f0 A1 c1 A c vals _ (Kd.C_below G1.out hHeld.2.2) L1.out (Kd.C_below HR.out hHeld.2.2) HC.out HS.out.1).mono ?_
  rintro e2 w7 ⟨rfl, hb7⟩
  refine ⟨_, rfl, ?_⟩
  refine hK.out _ _ ⟨blk_below hHeld.1 hb7, (hb7.cell (World.block_lt_of_cell? _ _ hHeld.2.1)).trans hHeld.2.1, below_step hHeld.2.2 hb7⟩ (fun hHeld => ?_)
  clear hK K hb7
  refine norm_ (a' := ?_) ?_ ?_
  rotate_left
  · show Act.put _ (some 7) _ = _
    simp only [Act.put, List.setIfInBounds_toArray, List.set_cons_zero, List.set_cons_succ, i64_w, i32_w]
    rfl
  refine one_ (i := 7) (N := some 11) #[true, true, true, true, true, true, true, true, false, false] rfl rfl (by kernel_rfl) (by decide) (fun K hK => ?_)
  refine goes_ Try.func58 (by kernel_rfl) rfl #[.agg #[.int .i64 x.f1.f0, .slice A3 x.f1.f1.length c3], .slice A vals.length c] (by rfl) rfl rfl (by (try simp only [List.map_toArray, List.map_cons, List.map_nil]); first | done | rfl) ?_
  refine (side_any x.f1 A3 c3 A c vals _ (Kd.C_below G3.out hHeld.2.2) L3.out (Kd.C_below HR.out hHeld.2.2) HC.out HS.out.2).mono ?_
  rintro e2 w7 ⟨rfl, hb7⟩
  refine ⟨_, rfl, ?_⟩
  refine hK.out _ _ ⟨blk_below hHeld.1 hb7, (hb7.cell (World.block_lt_of_cell? _ _ hHeld.2.1)).trans hHeld.2.1, below_step hHeld.2.2 hb7⟩ (fun hHeld => ?_)
  clear hK K hb7
  refine norm_ (a' := ?_) ?_ ?_
  rotate_left
  · show Act.put _ (some 11) _ = _
    simp only [Act.put, List.setIfInBounds_toArray, List.set_cons_zero, List.set_cons_succ, i64_w, i32_w]
    rfl
  refine pure_ (i := 8) (N := some 12) (v := ?_) (a' := ?_) #[true, true, true, true, true, true, true, true, true, false] rfl rfl (by kernel_rfl) (fun _ _ _ h => h) (Or.inl ⟨by rfl, ?_⟩) ?_ ?_
  rotate_left
  · intro w'
    go_simp
    with_reducible rfl
  rotate_left
  · simp only [Act.put, List.setIfInBounds_toArray, List.set_cons_zero, List.set_cons_succ, i64_w, i32_w]
    rfl
  refine pure_ (i := 9) (N := some 3) (v := ?_) (a' := ?_) #[true, true, true, true, true, true, true, true, true, true] rfl rfl (by kernel_rfl) (fun _ _ _ h => h) (Or.inl ⟨by rfl, ?_⟩) ?_ ?_
  rotate_left
  · intro w'
    go_simp
    with_reducible rfl
  rotate_left
  · simp only [Act.put, List.setIfInBounds_toArray, List.set_cons_zero, List.set_cons_succ, i64_w, i32_w]
    rfl
  refine done_ (by kernel_rfl) ?_
  go_wp2
  go_ret
  exact ⟨rfl, hHeld.2.2⟩
/-- Is a number none that a solution may have? -/
def farB (v : Int) : Bool := decide (v < 0) || decide (1099511627776 < v)
set_option maxRecDepth 100000 in
theorem holds1 (w : World) : PredInt 55 #[] farB w := by
  intro v W hB
  have F := Aside0.mk (show farB v = (decide (v < 0) || decide (1099511627776 < v)) from rfl)
  clear hB
  by_cases h1 : v < 0
  · rw [decide_eq_true h1, Bool.true_or] at F
    have hd : decide (v < 0) = true := decide_eq_true h1
    go_enter Try.func55, Try.ntmps55
    go_wp2
    go_ret
    exact ⟨ret_bool F.out.symm, Below.refl _ _⟩
  · rw [decide_eq_false h1, Bool.false_or] at F
    have hd : decide (v < 0) = false := decide_eq_false h1
    clear h1
    go_enter Try.func55, Try.ntmps55
    go_wp2
    go_ret
    exact ⟨ret_bool F.out.symm, Below.refl _ _⟩
theorem sideOk_of {n : Nat} {l : List S44} (hs : SysOk n l) {vals : List Int} (hl : vals.length = n) (hv : ∀ v ∈ vals, 0 ≤ v ∧ v ≤ 1099511627776) : ∀ x ∈ l, SideOk x.f0 vals ∧ SideOk x.f1 vals := by
  intro x hx
  have hf := hs.fit x hx
  have key : ∀ a : S41, LvlOk a → (∀ v ∈ a.f1, v.f0 < n) → SideOk a vals := fun a ha hb => ⟨by have := ha.len; omega, fun v hv2 => by
    have h1 := ha.var v hv2
    have h2 := hb v hv2
    have h3 : v.f0.toNat < vals.length := by omega
    have h4 := hv (vals.getD v.f0.toNat 0) (by rw [List.getD_eq_getElem?_getD, List.getElem?_eq_getElem h3]; exact List.getElem_mem h3)
    refine ⟨by omega, by omega, by omega, by omega⟩⟩
  exact ⟨key _ hf.a hf.av, key _ hf.b hf.bv⟩
def graph_Holds.f (_k : Nat) (a0 : Int) (l1 : List S44) (l2 : List Int) : Option (Int × Int) :=
  if validB a0 l1 = true then if (l2.length : Int) = a0 then if l2.any farB = true then some (0, 1) else some (idxB (brokenB l2) l1 0, 0) else some (0, 1) else some (0, 4)
theorem graph_Holds.mono : ∀ a0 l1 l2 k, LeO (graph_Holds.f k a0 l1 l2) (graph_Holds.f (k + 1) a0 l1 l2) := fun _ _ _ _ => LeO.refl _
set_option maxHeartbeats 2000000 in
theorem graph_Holds.calls (k : Nat) (a0 : Int) (A1 : Option Addr) (c1 : Nat) (l1 : List (S44)) (A2 : Option Addr) (c2 : Nat) (l2 : List Int) (r1 : Int) (r2 : Int) (w : World) (hr1 : Kd.C k44 w A1 l1.length l1) (hc1 : l1.length ≤ c1) (hr2 : Kd.C (Kd.int .i64) w A2 l2.length l2) (hc2 : l2.length ≤ c2) (h : graph_Holds.f k a0 l1 l2 = some (r1, r2)) :
    Calls Try.prog 27 #[.int .i64 a0, .slice A1 l1.length c1, .slice A2 l2.length c2] w fun e w' => e = .returned (.tuple #[.int .i64 r1, .int .i64 r2]) ∧ Below w.heap.size w w' := by
  have HR := Aside0.mk hr1
  have HC := Aside0.mk hc1
  have HR2 := Aside0.mk hr2
  have HC2 := Aside0.mk hc2
  have hm : l2.length ≤ 9223372036854775807 := hr2.2.1
  clear hr1 hc1 hr2 hc2
  unfold graph_Holds.f at h
  have BX := Aside0.mk (blk_new w (.cells #[.slice A2 l2.length c2] 25))
  go_enter Try.func27, Try.ntmps27
  go_wp2_with (fail)
  refine (graph_Valid.calls a0 A1 c1 l1 (validB a0 l1) _ (Kd.C_alloc HR.out _) HC.out rfl).mono ?_
  rintro e w1 ⟨rfl, hb⟩
  have HB := Aside0.mk (below_step ((Below.refl _ _).alloc (Nat.le_refl _) _) hb)
  have BX := Aside0.mk (blk_below BX.out hb)
  clear hb
  cases hv : validB a0 l1 with
  | false =>
    rw [hv, if_neg (by decide)] at h
    obtain ⟨rfl, rfl⟩ := Prod.mk.inj (Option.some.inj h)
    clear hv h
    go_wp2
    go_ret2
    exact ⟨rfl, HB.out⟩
  | true =>
    rw [hv, if_pos rfl] at h
    obtain ⟨n, rfl, hs⟩ := valid_ok hv
    have HS := Aside0.mk hs
    clear hv hs
    have z0 := (blk_cell BX.out 0).trans rfl
    by_cases hq : (l2.length : Int) = (n : Int)
    · rw [if_pos hq] at h
      have HQ := Aside0.mk hq
      have hd : ((l2.length : Int) != (n : Int)) = false := by simpa using hq
      have H := Aside0.mk h
      clear hq h
      go_wp2_with (fail)
      refine (hasInt 55 #[] (enters_of Try.func55 (by kernel_rfl) rfl) farB A2 c2 l2 _ (Kd.C_below HR2.out HB.out) HC2.out (holds1 _)).mono ?_
      rintro e w2 ⟨rfl, hb⟩
      have HB2 := Aside0.mk (below_step HB.out hb)
      have BX2 := Aside0.mk (blk_below BX.out hb)
      clear hb z0 BX HB
      have z0 := (blk_cell BX2.out 0).trans rfl
      cases hany : l2.any farB with
      | true =>
        have H2 := H.out
        rw [hany, if_pos rfl] at H2
        obtain ⟨rfl, rfl⟩ := Prod.mk.inj (Option.some.inj H2)
        clear hany H2 H
        go_wp2
        go_ret2
        exact ⟨rfl, HB2.out⟩
      | false =>
        have H2 := H.out
        rw [hany, if_neg (by decide)] at H2
        obtain ⟨rfl, rfl⟩ := Prod.mk.inj (Option.some.inj H2)
        have HS2 := Aside0.mk (sideOk_of HS.out (vals := l2) (by have := HQ.out; omega) (fun v hv => by
          rw [List.any_eq_false] at hany
          have := hany v hv
          simp only [farB, Bool.or_eq_true, decide_eq_true_eq, not_or] at this
          omega))
        clear hany H2 H
        go_wp2_with (fail)
        refine (idxLConIn 57 #[.pointer (some ⟨w.heap.size, 0, none⟩)] (enters_of Try.func57 (by kernel_rfl) rfl) (brokenB l2) A1 c1 l1 _ (Kd.C_below HR.out HB2.out) HC.out (holds2 l1 w.heap.size A2 c2 l2 _ (blk_lt BX2.out) z0 (Kd.C_below HR2.out HB2.out) HC2.out HS2.out)).mono ?_
        rintro e w3 ⟨rfl, hb⟩
        have HB3 := Aside0.mk (below_step HB2.out hb)
        clear hb z0
        generalize hq : idxB (brokenB l2) l1 0 = q
        have HQ2 := Aside0.mk hq
        clear hq
        go_wp2
        go_ret2
        exact ⟨by rw [HQ2.out]; rfl, HB3.out⟩
    · rw [if_neg hq] at h
      obtain ⟨rfl, rfl⟩ := Prod.mk.inj (Option.some.inj h)
      have hd : ((l2.length : Int) != (n : Int)) = true := by simpa using hq
      clear hq h
      go_wp2
      go_ret2
      exact ⟨rfl, HB.out⟩
end Go.Proofs.Ytegejpcglabhbaa.G
