/- Plain law: constraints with their variables numbered from the other end. -/
import Derived.Test.YtegejpcglabhbaaGNc
import Derived.Test.YtegejpcglabhbaaGf44
namespace Go.Proofs.Ytegejpcglabhbaa.G
open Go.RowKit Go.Proofs.YtegejpcglabhbaaW.PrintWords Go.Proofs.YtegejpcglabhbaaW.PrintLast Go.Proofs.YtegejpcglabhbaaW.PrintMore
set_option linter.unusedVariables false
set_option linter.unusedSimpArgs false

def tv (n : Int) (v : S96) : S96 := ⟨n - 1 - v.f0, v.f1⟩
def turnC (n : Int) (c : S44) : S44 := ⟨⟨c.f0.f0, c.f0.f1.map (tv n)⟩, ⟨c.f1.f0, c.f1.f1.map (tv n)⟩⟩
def part (n : Int) (A : List S96) (i : Nat) : List S96 := (A.take i).map (tv n) ++ A.drop i
theorem part_length (n : Int) (A : List S96) (i : Nat) : (part n A i).length = A.length := by simp [part]; omega
theorem rd96_get {l : List S96} {i : Nat} (h : i < l.length) : rd_T96 l (i : Int) = l[i] := by
  unfold rd_T96
  rw [Int.toNat_natCast, List.getD_eq_getElem?_getD, List.getElem?_eq_getElem h]
  rfl
theorem part_get {n : Int} {A : List S96} {i : Nat} (h : i < A.length) : rd_T96 (part n A i) (i : Int) = A[i] := by
  rw [rd96_get (by rw [part_length]; exact h)]
  simp only [part]
  rw [List.getElem_append_right (by simp; omega)]
  simp [Nat.min_eq_left (Nat.le_of_lt h)]
theorem part_set {n : Int} {A : List S96} {i : Nat} (h : i < A.length) : (part n A i).set i (tv n A[i]) = part n A (i + 1) := by
  unfold part
  rw [List.set_append_right _ _ (by simp; omega)]
  have h1 : ((A.take i).map (tv n)).length = i := by simp; omega
  rw [h1, Nat.sub_self, List.drop_eq_getElem_cons h, List.set_cons_zero, List.take_succ_eq_append_getElem h, List.map_append, List.append_assoc]
  rfl
theorem w64_tv {n : Int} {v : S96} (h0 : 1 ≤ n) (h1 : n ≤ 1200) (hv : 0 ≤ v.f0) (hv2 : v.f0 < 1200) : (⟨wrap64 (wrap64 (n - 1) - v.f0), v.f1⟩ : S96) = tv n v := by
  unfold tv
  rw [show wrap64 (n - 1) = n - 1 by unfold wrap64; omega, show wrap64 (n - 1 - v.f0) = n - 1 - v.f0 by unfold wrap64; omega]
def InVars (n : Int) (A : List S96) : Prop := A.length ≤ 8 ∧ ∀ v ∈ A, 0 ≤ v.f0 ∧ v.f0 < n
theorem turn_l2 {n : Int} (h1 : n ≤ 1200) {R : List S44} (l out : List S44) (x6 a : Int) (A : List S96) (b : Int) (B : List S96) (hB : InVars n B) (ho : out.length < 100000)
    (h : Ev (fun k => tenetlaw02_turned.l0 k n l (out ++ [⟨⟨a, A⟩, ⟨b, B.map (tv n)⟩⟩]) (wrap64 (x6 + 1))) R) : ∀ (d i : Nat), d + i = B.length → Ev (fun k => tenetlaw02_turned.l2 k n l out x6 (i : Int) a A b (part n B i)) R := by
  intro d
  have hl8 := hB.1
  induction d with
  | zero =>
    intro i hd
    refine Ev.step (fun k => tenetlaw02_turned.l2.eq_2 ..) (Ev.neg (by rw [part_length]; omega) (Ev.pos (by omega) ?_))
    rw [show part n B i = B.map (tv n) by unfold part; rw [show i = B.length by omega, List.take_length, List.drop_length, List.append_nil]]
    exact h
  | succ d ih =>
    intro i hd
    have hi : i < B.length := by omega
    have hv := hB.2 _ (List.getElem_mem hi)
    refine Ev.step (fun k => tenetlaw02_turned.l2.eq_2 ..) (Ev.pos (by rw [part_length]; omega) (Ev.pos (by omega) ?_))
    rw [part_get hi, w64_tv (by omega) h1 hv.1 (by omega), Int.toNat_natCast, part_set hi, w64n _ (by omega)]
    exact ih (i + 1) (by omega)
theorem turn_l1 {n : Int} (h1 : n ≤ 1200) {R : List S44} (l out : List S44) (x6 a : Int) (A : List S96) (b : Int) (B : List S96) (hA : InVars n A) (hB : InVars n B) (ho : out.length < 100000)
    (h : Ev (fun k => tenetlaw02_turned.l0 k n l (out ++ [⟨⟨a, A.map (tv n)⟩, ⟨b, B.map (tv n)⟩⟩]) (wrap64 (x6 + 1))) R) : ∀ (d i : Nat), d + i = A.length → Ev (fun k => tenetlaw02_turned.l1 k n l out x6 (i : Int) a (part n A i) b B) R := by
  intro d
  have hl8 := hA.1
  induction d with
  | zero =>
    intro i hd
    refine Ev.step (fun k => tenetlaw02_turned.l1.eq_2 ..) (Ev.neg (by rw [part_length]; omega) ?_)
    rw [show part n A i = A.map (tv n) by unfold part; rw [show i = A.length by omega, List.take_length, List.drop_length, List.append_nil]]
    exact turn_l2 h1 l out x6 a _ b B hB ho h B.length 0 (by omega)
  | succ d ih =>
    intro i hd
    have hi : i < A.length := by omega
    have hv := hA.2 _ (List.getElem_mem hi)
    refine Ev.step (fun k => tenetlaw02_turned.l1.eq_2 ..) (Ev.pos (by rw [part_length]; omega) (Ev.pos (by omega) ?_))
    rw [part_get hi, w64_tv (by omega) h1 hv.1 (by omega), Int.toNat_natCast, part_set hi, w64n _ (by omega)]
    exact ih (i + 1) (by omega)
theorem copyl_ev (a : Int) (l : List S96) (hl : l.length ≤ 1000) : Ev (fun k => tenetref00_CopyLevel.f k a l) (a, l) := by
  have key : ∀ (d i : Nat), d + i = l.length → Ev (fun k => tenetref00_CopyLevel.l0 k (i : Int) a l a (l.take i)) (a, l) := by
    intro d
    induction d with
    | zero =>
      intro i hd
      refine Ev.step (fun k => tenetref00_CopyLevel.l0.eq_2 ..) (Ev.neg (by omega) ?_)
      rw [show i = l.length by omega, List.take_length]
      exact Ev.now _
    | succ d ih =>
      intro i hd
      have hi : i < l.length := by omega
      refine Ev.step (fun k => tenetref00_CopyLevel.l0.eq_2 ..) (Ev.pos (by omega) (Ev.pos (by omega) (Ev.pos (by rw [List.length_take]; omega) ?_)))
      rw [rd96_get hi, show (⟨l[i].f0, l[i].f1⟩ : S96) = l[i] from rfl, ← List.take_succ_eq_append_getElem hi, w64n _ (by omega)]
      exact ih (i + 1) (by omega)
  have := key l.length 0 (by omega)
  rw [List.take_zero] at this
  exact this
theorem rd44_get {l : List S44} {i : Nat} (h : i < l.length) : rd_T44 l (i : Int) = l[i] := by
  unfold rd_T44
  rw [Int.toNat_natCast, List.getD_eq_getElem?_getD, List.getElem?_eq_getElem h]
  rfl
theorem fit_vars {n : Int} {c : S44} (h : FitOk n c) : InVars n c.f0.f1 ∧ InVars n c.f1.f1 :=
  ⟨⟨h.a.len, fun v hv => ⟨(h.a.var v hv).1, h.av v hv⟩⟩, ⟨h.b.len, fun v hv => ⟨(h.b.var v hv).1, h.bv v hv⟩⟩⟩
theorem turned_ev {n : Nat} {l : List S44} (hs : SysOk n l) : Ev (fun k => tenetlaw02_turned.f k (n : Int) l) (l.map (turnC n)) := by
  have hl := hs.len
  have hn := hs.n1
  have key : ∀ (d i : Nat), d + i = l.length → Ev (fun k => tenetlaw02_turned.l0 k (n : Int) l ((l.take i).map (turnC n)) (i : Int)) (l.map (turnC n)) := by
    intro d
    induction d with
    | zero =>
      intro i hd
      refine Ev.step (fun k => tenetlaw02_turned.l0.eq_2 ..) (Ev.neg (by omega) ?_)
      rw [show i = l.length by omega, List.take_length]
      exact Ev.now _
    | succ d ih =>
      intro i hd
      have hi : i < l.length := by omega
      obtain ⟨hA, hB⟩ := fit_vars (hs.fit _ (List.getElem_mem hi))
      have hA8 := hA.1
      have hB8 := hB.1
      refine Ev.step (fun k => tenetlaw02_turned.l0.eq_2 ..) (Ev.pos (by omega) (Ev.pos (by omega) ?_))
      rw [rd44_get hi]
      refine Ev.bind (copyl_ev _ _ (by omega)) (Ev.bind (copyl_ev _ _ (by omega)) ?_)
      refine turn_l1 (by omega) l _ (i : Int) _ _ _ _ hA hB (by rw [List.length_map, List.length_take]; omega) ?_ l[i].f0.f1.length 0 (by omega)
      rw [w64n _ (by omega)]
      have e : (l.take i).map (turnC n) ++ [⟨⟨l[i].f0.f0, l[i].f0.f1.map (tv n)⟩, ⟨l[i].f1.f0, l[i].f1.f1.map (tv n)⟩⟩] = (l.take (i + 1)).map (turnC n) := by
        rw [List.take_succ_eq_append_getElem hi, List.map_append]
        rfl
      show Ev (fun k => tenetlaw02_turned.l0 k (n : Int) l ((l.take i).map (turnC n) ++ [⟨⟨l[i].f0.f0, l[i].f0.f1.map (tv n)⟩, ⟨l[i].f1.f0, l[i].f1.f1.map (tv n)⟩⟩]) ((i + 1 : Nat) : Int)) _
      rw [e]
      exact ih (i + 1) (by omega)
  exact key l.length 0 (by omega)

/-! ### validity -/
theorem any_map_tv (n : Int) (A : List S96) (v : S96) : (A.map (tv n)).any (fun x => x.f0 == (tv n v).f0) = A.any (fun x => x.f0 == v.f0) := by
  induction A with
  | nil => rfl
  | cons x A ih =>
    rw [List.map_cons, List.any_cons, List.any_cons, ih]
    congr 1
    simp only [tv]
    by_cases e : x.f0 = v.f0
    · rw [e]
      simp
    · rw [beq_eq_false_iff_ne.2 e, beq_eq_false_iff_ne.2 (by omega)]
theorem idx_map (n : Int) (A : List S96) (v : S96) : (0 ≤ idxB (fun x => x.f0 == (tv n v).f0) (A.map (tv n)) 0) ↔ (0 ≤ idxB (fun x => x.f0 == v.f0) A 0) := by
  have h1 := idxB_any (fun x : S96 => x.f0 == (tv n v).f0) (A.map (tv n)) 0
  have h2 := idxB_any (fun x : S96 => x.f0 == v.f0) A 0
  rw [any_map_tv, ← h2] at h1
  rwa [decide_eq_decide] at h1
theorem lvlVars_turn {n : Int} (hn : n ≤ 1200) {A : List S96} (hA : ∀ v ∈ A, 0 ≤ v.f0 ∧ v.f0 < n) : ∀ (d i : Nat), d + i = A.length → lvlVars A d i = true → lvlVars (A.map (tv n)) d i = true := by
  intro d
  induction d with
  | zero => intro i _ _; rfl
  | succ d ih =>
    intro i hd h
    have hi : i < A.length := by omega
    have e : rd_T96 (A.map (tv n)) (i : Int) = tv n A[i] := by rw [rd96_get (by simp; omega), List.getElem_map]
    have hv := hA _ (List.getElem_mem hi)
    simp only [lvlVars] at h ⊢
    rw [e, ← List.map_take]
    rw [rd96_get hi] at h
    have hf1 : (tv n A[i]).f1 = A[i].f1 := rfl
    have hf0 : (tv n A[i]).f0 = n - 1 - A[i].f0 := rfl
    rw [hf1]
    rw [if_neg (by omega), if_neg (by omega)]
    split at h
    · cases h
    split at h
    · cases h
    split at h
    · cases h
    split at h
    · cases h
    split at h
    · cases h
    rename_i h1 h2 h3 h4 h5
    rw [if_neg h3, if_neg h4, if_neg (fun hc => h5 ((idx_map n _ _).1 hc))]
    exact ih (i + 1) (by omega) h
theorem lvl_turn {n : Int} (hn : n ≤ 1200) {c : Int} {A : List S96} (hA : ∀ v ∈ A, 0 ≤ v.f0 ∧ v.f0 < n) (h : lvl c A = true) : lvl c (A.map (tv n)) = true := by
  unfold lvl at h ⊢
  rw [List.length_map]
  split at h
  · cases h
  split at h
  · cases h
  split at h
  · cases h
  rename_i h1 h2 h3
  rw [if_neg h1, if_neg h2, if_neg h3]
  exact lvlVars_turn hn hA _ 0 (by omega) h
theorem fits_turn {n : Nat} (hn : n ≤ 1200) {c : S44} (h : fitsB (n : Int) c = true) : fitsB (n : Int) (turnC n c) = true := by
  obtain ⟨hA, hB⟩ := fit_vars (fit_ok h)
  simp only [fitsB, Bool.and_eq_true, decide_eq_true_eq, belowB, List.all_eq_true] at h ⊢
  obtain ⟨h1, h2, h3, h4, h5, h6⟩ := h
  refine ⟨lvl_turn (by omega) hA.2 h1, lvl_turn (by omega) hB.2 h2, by simpa [turnC] using h3, by rw [show (turnC n c).f1.f1.length = c.f1.f1.length by simp [turnC]]; exact h4, fun v hv => ?_, fun v hv => ?_⟩
  · obtain ⟨u, hu, rfl⟩ := List.mem_map.1 hv
    have := hA.2 u hu
    simp only [tv]
    omega
  · obtain ⟨u, hu, rfl⟩ := List.mem_map.1 hv
    have := hB.2 u hu
    simp only [tv]
    omega

/-! ### solutions -/
def rev (n v : Nat) : Nat := if v < n then n - 1 - v else v
theorem rev_rev (n v : Nat) : rev n (rev n v) = v := by
  unfold rev
  split
  · rw [if_pos (by omega)]; omega
  · rfl
theorem rev_n (n : Nat) : rev n n = n := by unfold rev; rw [if_neg (by omega)]
theorem rev_int {n : Nat} {x : Int} (h0 : 0 ≤ x) (h1 : x < n) : ((n : Int) - 1 - x).toNat = rev n x.toNat := by
  unfold rev
  rw [if_pos (by omega)]
  omega
theorem suits_turn {n : Nat} {c : S44} (hc : FitOk n c) {val : Nat → Int} : Suits val (arcsOf (n : Int) 0 (turnC n c)) ↔ Suits (fun v => val (rev n v)) (arcsOf (n : Int) 0 c) := by
  obtain ⟨hA, hB⟩ := fit_vars hc
  have hb2 : (bndOf (n : Int) (turnC n c).f1).2 = (bndOf (n : Int) c.f1).2 := by
    unfold bndOf turnC
    simp only [List.length_map]
    by_cases h : c.f1.f1.length = 1
    · rw [if_pos h, if_pos h]
      have e1 := rd96_get (l := c.f1.f1.map (tv n)) (i := 0) (by simp; omega)
      have e2 := rd96_get (l := c.f1.f1) (i := 0) (by omega)
      simp only [Int.natCast_zero] at e1 e2
      rw [e1, e2, List.getElem_map]
      rfl
    · rw [if_neg h, if_neg h]
  have hb1 : (bndOf (n : Int) (turnC n c).f1).1.toNat = rev n (bndOf (n : Int) c.f1).1.toNat := by
    unfold bndOf turnC
    simp only [List.length_map]
    by_cases h : c.f1.f1.length = 1
    · rw [if_pos h, if_pos h]
      have e1 := rd96_get (l := c.f1.f1.map (tv n)) (i := 0) (by simp; omega)
      have e2 := rd96_get (l := c.f1.f1) (i := 0) (by omega)
      simp only [Int.natCast_zero] at e1 e2
      have hv := hB.2 _ (List.getElem_mem (show 0 < c.f1.f1.length by omega))
      rw [e1, e2, List.getElem_map]
      exact rev_int hv.1 hv.2
    · rw [if_neg h, if_neg h]
      show (n : Int).toNat = rev n (n : Int).toNat
      rw [Int.toNat_natCast, rev_n]
  unfold Suits arcsOf
  rw [hb2]
  simp only [List.mem_cons, List.mem_map, forall_eq_or_imp, forall_exists_index, and_imp, forall_apply_eq_imp_iff₂, Int.toNat_natCast, rev_n]
  have hf : (turnC n c).f0.f1 = c.f0.f1.map (tv n) := rfl
  have hf0 : (turnC n c).f0.f0 = c.f0.f0 := rfl
  rw [hf, hf0, hb1]
  simp only [List.mem_map, forall_exists_index, and_imp, forall_apply_eq_imp_iff₂]
  refine and_congr Iff.rfl (forall_congr' fun v => ?_)
  refine forall_congr' fun hv => ?_
  have h := hA.2 v hv
  have e : (tv n v).f0.toNat = rev n v.f0.toNat := rev_int h.1 h.2
  rw [e]
  exact Iff.rfl
theorem sol_turn {n : Nat} {l : List S44} (hs : SysOk n l) {val : Nat → Int} : Sol n (sysArcs n (l.map (turnC n))) val ↔ Sol n (sysArcs n l) (fun v => val (rev n v)) := by
  rw [sol_sys, sol_sys]
  refine and_congr (by rw [rev_n]) (and_congr ⟨fun h v hv => h _ (by unfold rev; rw [if_pos hv]; omega), fun h v hv => ?_⟩ ⟨fun h c hc => (suits_turn (hs.fit c hc)).1 (h _ (List.mem_map.2 ⟨c, hc, rfl⟩)), fun h c hc => ?_⟩)
  · have := h (rev n v) (by unfold rev; rw [if_pos hv]; omega)
    rw [rev_rev] at this
    exact this
  · obtain ⟨c2, hc2, rfl⟩ := List.mem_map.1 hc
    exact (suits_turn (hs.fit c2 hc2)).2 (h c2 hc2)
theorem least_turn {n : Nat} {l : List S44} (hs : SysOk n l) {b d : List Int} (hb : Least n (sysArcs n l) b) (hd : Least n (sysArcs n (l.map (turnC n))) d) {v : Nat} (hv : v ≤ n) : d.getD v 0 = b.getD (rev n v) 0 := by
  have hrn : rev n v ≤ n := by unfold rev; split <;> omega
  have h1 : Sol n (sysArcs n (l.map (turnC n))) (fun v => b.getD (rev n v) 0) := (sol_turn hs).2 (by
    simp only [rev_rev]
    exact hb.sol)
  have h2 := hd.le h1 v hv
  have h3 := hb.le ((sol_turn hs).1 hd.sol) (rev n v) hrn
  simp only [rev_rev] at h3
  exact Int.le_antisymm h2 h3
end Go.Proofs.Ytegejpcglabhbaa.G
