/- Plain law: what Holds tells; GraphHolds answers true. -/
import Derived.Test.YtegejpcglabhbaaGNa
import Derived.Test.YtegejpcglabhbaaGf29
import Derived.Test.YtegejpcglabhbaaGf4
namespace Go.Proofs.Ytegejpcglabhbaa.G
open Go.RowKit Go.Proofs.YtegejpcglabhbaaW.PrintWords Go.Proofs.YtegejpcglabhbaaW.PrintLast Go.Proofs.YtegejpcglabhbaaW.PrintMore
set_option linter.unusedVariables false
set_option linter.unusedSimpArgs false

theorem value_l0 (l : List S96) (c : Int) (vals : List Int) (hl : l.length ≤ 1000) (hv : ∀ v ∈ l, 0 ≤ v.f0 ∧ v.f0 < vals.length ∧ -4000000000000 ≤ vals.getD v.f0.toNat 0 + v.f1 ∧ vals.getD v.f0.toNat 0 + v.f1 ≤ 4000000000000) :
    ∀ (d i k : Nat) (m : Int), d + i = l.length → d < k → tenetref02_value.l0 k vals m (i : Int) c l = some ((l.drop i).foldl (fun m v => max m (vals.getD v.f0.toNat 0 + v.f1)) m) := by
  intro d
  induction d with
  | zero =>
    intro i k m hd hk
    obtain ⟨k, rfl⟩ : ∃ m, k = m + 1 := ⟨k - 1, by omega⟩
    simp only [tenetref02_value.l0]
    rw [if_neg (by omega), List.drop_eq_nil_of_le (by omega)]
    rfl
  | succ d ih =>
    intro i k m hd hk
    obtain ⟨k, rfl⟩ : ∃ m, k = m + 1 := ⟨k - 1, by omega⟩
    have hil : i < l.length := by omega
    have e : rd_T96 l (i : Int) = l[i] := by simp [rd_T96, List.getD_eq_getElem?_getD, List.getElem?_eq_getElem hil]
    have h := hv l[i] (List.getElem_mem hil)
    simp only [tenetref02_value.l0, e]
    have hw : wrap64 ((i : Int) + 1) = ((i + 1 : Nat) : Int) := by unfold wrap64; omega
    have hw2 : wrap64 (rd vals l[i].f0 + l[i].f1) = vals.getD l[i].f0.toNat 0 + l[i].f1 := by
      show wrap64 (vals.getD l[i].f0.toNat 0 + l[i].f1) = _
      unfold wrap64
      omega
    rw [if_pos (by omega), if_pos (by omega), if_pos (by omega), if_pos (by omega), hw, hw2]
    refine (ih (i + 1) k _ (by omega) (by omega)).trans ?_
    rw [List.drop_eq_getElem_cons hil, List.foldl_cons]
    congr 2
    unfold mx
    omega
theorem value_eq {a : S41} {vals : List Int} (h : SideOk a vals) (k : Nat) (hk : 1001 ≤ k) : tenetref02_value.f k a.f0 a.f1 vals = some (sideB a vals) := by
  unfold tenetref02_value.f
  exact value_l0 a.f1 a.f0 vals h.1 h.2 a.f1.length 0 k a.f0 (by omega) (by have := h.1; omega)
theorem broken_l0 (l : List S44) (vals : List Int) (hl : l.length ≤ 3000) (hs : ∀ x ∈ l, SideOk x.f0 vals ∧ SideOk x.f1 vals) : ∀ (d i k : Nat), d + i = l.length → d + 1002 ≤ k →
    tenetref02_broken.l0 k l vals (i : Int) = some (idxB (brokenB vals) (l.drop i) i) := by
  intro d
  induction d with
  | zero =>
    intro i k hd hk
    obtain ⟨k, rfl⟩ : ∃ m, k = m + 1 := ⟨k - 1, by omega⟩
    simp only [tenetref02_broken.l0]
    rw [if_neg (by omega), List.drop_eq_nil_of_le (by omega)]
    rfl
  | succ d ih =>
    intro i k hd hk
    obtain ⟨k, rfl⟩ : ∃ m, k = m + 1 := ⟨k - 1, by omega⟩
    have hil : i < l.length := by omega
    have h := hs l[i] (List.getElem_mem hil)
    simp only [tenetref02_broken.l0, rd44 l i hil]
    rw [if_pos (by omega), if_pos (by omega), value_eq h.1 k (by omega), Option.bind_some, value_eq h.2 k (by omega), Option.bind_some, List.drop_eq_getElem_cons hil]
    simp only [idxB]
    by_cases e : brokenB vals l[i] = true
    · rw [if_pos e, if_pos (of_decide_eq_true e)]
    · rw [if_neg e, if_neg (fun h2 => e (decide_eq_true h2)), w64n _ (by omega)]
      exact ih (i + 1) k (by omega) (by omega)
theorem rholds_l0 (n : Nat) (l : List S44) (vals : List Int) (hn : n ≤ 1200) (hl : vals.length = n) (r : Int) (hr : ∀ k, 5000 ≤ k → tenetref02_broken.f k l vals = some r) : ∀ (d i k : Nat), d + i = n → d + 5001 ≤ k →
    tenetref02_Holds.l0 k (n : Int) l vals (i : Int) = some (if (vals.drop i).any farB = true then (0, 1) else (r, 0)) := by
  intro d
  induction d with
  | zero =>
    intro i k hd hk
    obtain ⟨k, rfl⟩ : ∃ m, k = m + 1 := ⟨k - 1, by omega⟩
    simp only [tenetref02_Holds.l0]
    rw [if_neg (by omega), List.drop_eq_nil_of_le (by omega), hr k (by omega)]
    rfl
  | succ d ih =>
    intro i k hd hk
    obtain ⟨k, rfl⟩ : ∃ m, k = m + 1 := ⟨k - 1, by omega⟩
    have hil : i < vals.length := by omega
    have e : rd vals (i : Int) = vals[i] := by simp [rd, List.getD_eq_getElem?_getD, List.getElem?_eq_getElem hil]
    simp only [tenetref02_Holds.l0, e]
    rw [if_pos (by omega), if_pos (by omega), if_pos (by omega), List.drop_eq_getElem_cons hil, List.any_cons]
    by_cases h1 : vals[i] < 0
    · rw [if_pos h1, if_pos (by simp [farB, h1])]
    · by_cases h2 : vals[i] > 1099511627776
      · rw [if_neg h1, if_pos h2, if_pos (by simp [farB, h2])]
      · rw [if_neg h1, if_neg h2, w64n _ (by omega), ih (i + 1) k (by omega) (by omega)]
        have hf : farB vals[i] = false := by unfold farB; rw [decide_eq_false h1, decide_eq_false (by omega)]; rfl
        rw [hf, Bool.false_or]
/-- What Holds tells. -/
def holdsR (n : Int) (l : List S44) (vals : List Int) : Int × Int :=
  if validB n l = true then if (vals.length : Int) = n then if vals.any farB = true then (0, 1) else (idxB (brokenB vals) l 0, 0) else (0, 1) else (0, 4)
theorem holds_ev (n : Int) (l : List S44) (vals : List Int) : Ev (fun k => graph_Holds.f k n l vals) (holdsR n l vals) := ⟨0, fun k _ => by
  show graph_Holds.f k n l vals = _
  unfold graph_Holds.f holdsR
  split
  · split
    · split <;> rfl
    · rfl
  · rfl⟩
theorem rholds_ev (n : Int) (l : List S44) (vals : List Int) : Ev (fun k => tenetref02_Holds.f k n l vals) (holdsR n l vals) := by
  unfold holdsR
  refine Ev.bind (ev_valid n l) ?_
  cases hv : validB n l with
  | false => exact Ev.neg (by decide) (Ev.now _)
  | true =>
    obtain ⟨m, rfl, hs⟩ := valid_ok hv
    refine Ev.pos rfl ?_
    rw [if_pos rfl]
    by_cases hq : (vals.length : Int) = (m : Int)
    · rw [if_pos hq]
      refine Ev.pos hq ?_
      by_cases hf : vals.any farB = true
      · rw [if_pos hf]
        refine ⟨10000, fun k hk => ?_⟩
        -- the broken one isn't reached
        have key : ∀ (d i k : Nat), d + i = m → d + 1 ≤ k → (vals.drop i).any farB = true → tenetref02_Holds.l0 k (m : Int) l vals (i : Int) = some (0, 1) := by
          intro d
          induction d with
          | zero =>
            intro i k hd hk h
            rw [List.drop_eq_nil_of_le (by omega)] at h
            cases h
          | succ d ih =>
            intro i k hd hk h
            obtain ⟨k, rfl⟩ : ∃ m, k = m + 1 := ⟨k - 1, by omega⟩
            have hil : i < vals.length := by omega
            have e : rd vals (i : Int) = vals[i] := by simp [rd, List.getD_eq_getElem?_getD, List.getElem?_eq_getElem hil]
            have hn := hs.n1
            simp only [tenetref02_Holds.l0, e]
            rw [if_pos (by omega), if_pos (by omega), if_pos (by omega)]
            rw [List.drop_eq_getElem_cons hil, List.any_cons] at h
            by_cases h1 : vals[i] < 0
            · rw [if_pos h1]
            · by_cases h2 : vals[i] > 1099511627776
              · rw [if_neg h1, if_pos h2]
              · rw [if_neg h1, if_neg h2, w64n _ (by omega)]
                have hf : farB vals[i] = false := by unfold farB; rw [decide_eq_false h1, decide_eq_false (by omega)]; rfl
                rw [hf, Bool.false_or] at h
                exact ih (i + 1) k (by omega) (by omega) h
        have hn := hs.n1
        exact key m 0 k (by omega) (by omega) hf
      · rw [if_neg hf]
        have hs2 := sideOk_of hs (vals := vals) (by omega) (fun v hv => by
          have hf2 := List.any_eq_false.1 (by simpa using hf) v hv
          simp only [farB, Bool.or_eq_true, decide_eq_true_eq, not_or] at hf2
          omega)
        have hn := hs.n1
        have h3 := hs.len
        refine ⟨10000, fun k hk => ?_⟩
        have := rholds_l0 m l vals hn (by omega) (idxB (brokenB vals) l 0) (fun k hk => by
          unfold tenetref02_broken.f
          exact broken_l0 l vals h3 hs2 l.length 0 k (by omega) (by omega)) m 0 k (by omega) (by omega)
        rw [List.drop_zero, if_neg hf] at this
        exact this
    · rw [if_neg hq]
      exact Ev.neg hq (Ev.now _)
theorem GraphHolds_pure (n : Int) (l : List S44) (vals : List Int) : ∃ k, tenetlaw02_GraphHolds.f k n l vals = some true := by
  refine Ev.rounds (g := fun k => tenetlaw02_GraphHolds.f k n l vals) ?_
  have hj : ∀ b, Ev (fun k => tenetlaw02_GraphHolds.j0 k n l vals b) true := fun b => by
    refine Ev.step (fun k => tenetlaw02_GraphHolds.j0.eq_2 ..) ?_
    cases b with
    | true => exact Ev.pos rfl (Ev.bind ev_awake (Ev.now _))
    | false => exact Ev.neg (by decide) (Ev.bind (holds_ev n l vals) (Ev.bind (rholds_ev n l vals) (Ev.pos rfl (Ev.pos rfl (Ev.bind ev_awake (Ev.now _))))))
  rcases ev_heavy n l 120 (by omega) with h | ⟨_, _, h⟩
  · exact Ev.bind h (Ev.pos rfl (hj _))
  · exact Ev.bind h (Ev.neg (by decide) (hj _))
/-! ### GraphLeast -/
theorem copy_l0 (l : List Int) (hl : l.length ≤ 1000000) : ∀ (d i k : Nat), d + i = l.length → d < k → tenetref00_CopyInts.l0 k l (l.take i) (i : Int) = some l := by
  intro d
  induction d with
  | zero =>
    intro i k hd hk
    obtain ⟨k, rfl⟩ : ∃ m, k = m + 1 := ⟨k - 1, by omega⟩
    simp only [tenetref00_CopyInts.l0]
    rw [if_neg (by omega), List.take_of_length_le (by omega)]
  | succ d ih =>
    intro i k hd hk
    obtain ⟨k, rfl⟩ : ∃ m, k = m + 1 := ⟨k - 1, by omega⟩
    have hil : i < l.length := by omega
    have e : rd l (i : Int) = l[i] := by simp [rd, List.getD_eq_getElem?_getD, List.getElem?_eq_getElem hil]
    simp only [tenetref00_CopyInts.l0, e]
    rw [if_pos (by omega), if_pos (by omega), if_pos (by rw [List.length_take]; omega), w64n _ (by omega), ← List.take_succ_eq_append_getElem hil]
    exact ih (i + 1) k (by omega) (by omega)
theorem copy_ev (l : List Int) (hl : l.length ≤ 1000000) : Ev (fun k => tenetref00_CopyInts.f k l) l := ⟨l.length + 1, fun k hk => copy_l0 l hl l.length 0 k (by omega) (by omega)⟩
/-- Numbers that a solution may have. -/
def InRange (vals : List Int) : Prop := ∀ v ∈ vals, 0 ≤ v ∧ v ≤ 1099511627776
theorem range_far {vals : List Int} : InRange vals ↔ vals.any farB = false := by
  unfold InRange
  rw [List.any_eq_false]
  simp only [farB, Bool.or_eq_true, decide_eq_true_eq, not_or]
  exact ⟨fun h v hv => by have := h v hv; omega, fun h v hv => by have := h v hv; omega⟩
theorem InRange.low {vals : List Int} (h : InRange vals) (v : Nat) : 0 ≤ vals.getD v 0 := by
  by_cases e : v < vals.length
  · rw [List.getD_eq_getElem?_getD, List.getElem?_eq_getElem e]
    exact (h _ (List.getElem_mem e)).1
  · rw [getD_ge (by omega)]
    omega
/-- Holds tells -1 exactly of solutions. -/
theorem holdsR_sol {n : Nat} {l : List S44} (hv : validB (n : Int) l = true) (hs : SysOk n l) {vals : List Int} (hl : vals.length = n) (hr : InRange vals) :
    (holdsR n l vals).2 = 0 ∧ ((holdsR n l vals).1 = -1 ↔ Sol n (sysArcs n l) (fun v => vals.getD v 0)) ∧ ((holdsR n l vals).1 ≠ -1 → 0 ≤ (holdsR n l vals).1) := by
  unfold holdsR
  rw [if_pos hv, if_pos (by omega), if_neg (by rw [range_far.1 hr]; decide)]
  obtain ⟨h1, h2⟩ := idxB_neg (brokenB vals) l 0
  exact ⟨rfl, h1.trans (holds_sol hs hl hr.low), fun h => by have := h2 h; omega⟩
theorem holdsR_ok {n : Int} {l : List S44} {vals : List Int} (h : (holdsR n l vals).2 = 0) : ∃ m : Nat, n = m ∧ validB n l = true ∧ SysOk m l ∧ vals.length = m ∧ InRange vals := by
  unfold holdsR at h
  split at h
  · rename_i hv
    obtain ⟨m, rfl, hs⟩ := valid_ok hv
    split at h
    · split at h
      · cases h
      · rename_i h1 h2
        exact ⟨m, rfl, hv, hs, by omega, range_far.2 (by simpa using h2)⟩
    · cases h
  · cases h
theorem Least.range {n : Nat} {E : List S105} {r : List Int} (h : Least n E r) : InRange r := fun v hv => by
  obtain ⟨i, hi, rfl⟩ := List.mem_iff_getElem.1 hv
  have h1 := h.low i
  have h2 := h.high i
  rw [List.getD_eq_getElem?_getD, List.getElem?_eq_getElem hi] at h1 h2
  have h3 : 0 ≤ r[i] := h1
  have h4 : r[i] ≤ 1200000 := h2
  omega
theorem get_of {r : List Int} {i : Nat} (h : i < r.length) : r.getD i 0 = r[i] := by
  rw [List.getD_eq_getElem?_getD, List.getElem?_eq_getElem h]
  rfl
end Go.Proofs.Ytegejpcglabhbaa.G
