/- Plain mathematics: the order of calls, and what a put in order is. No condition. -/
import Derived.Test.YtiepinfcndefhaaVb
namespace Go.Proofs.Ytiepinfcndefhaa.S
set_option linter.unusedVariables false
set_option linter.unusedSimpArgs false

theorem bl_irr : ∀ l, Op.bytesLess l l = false
  | [] => rfl
  | a :: l => by simp [Op.bytesLess, bl_irr l]
theorem bl_trans : ∀ {x y z}, Op.bytesLess x y = true → Op.bytesLess y z = true → Op.bytesLess x z = true
  | x, [], z, h, _ => by cases x <;> simp [Op.bytesLess] at h
  | x, b :: y, [], _, h => by simp [Op.bytesLess] at h
  | [], b :: y, c :: z, _, _ => rfl
  | a :: x, b :: y, c :: z, h1, h2 => by
    simp only [Op.bytesLess, Bool.or_eq_true, Bool.and_eq_true, decide_eq_true_eq, beq_iff_eq] at h1 h2 ⊢
    rcases h1 with h1 | ⟨rfl, h1⟩
    · rcases h2 with h2 | ⟨rfl, h2⟩
      · exact .inl (UInt8.lt_trans h1 h2)
      · exact .inl h1
    · rcases h2 with h2 | ⟨rfl, h2⟩
      · exact .inl h2
      · exact .inr ⟨rfl, bl_trans h1 h2⟩
theorem bl_tri : ∀ {x y}, Op.bytesLess x y = false → Op.bytesLess y x = false → x = y
  | [], [], _, _ => rfl
  | [], _ :: _, h, _ => by simp [Op.bytesLess] at h
  | _ :: _, [], _, h => by simp [Op.bytesLess] at h
  | a :: x, b :: y, h1, h2 => by
    simp only [Op.bytesLess, Bool.or_eq_false_iff, decide_eq_false_iff_not] at h1 h2
    have e : a = b := UInt8.le_antisymm (UInt8.not_lt.1 h2.1) (UInt8.not_lt.1 h1.1)
    subst e
    have q1 := h1.2
    have q2 := h2.2
    simp only [beq_self_eq_true, Bool.true_and] at q1 q2
    rw [bl_tri q1 q2]
theorem ba_irr (x : Ac) : beforeA x x = false := by cases x; simp [beforeA]
theorem ba_tri {x y : Ac} (h1 : beforeA x y = false) (h2 : beforeA y x = false) : x = y := by
  obtain ⟨a, b, s⟩ := x
  obtain ⟨c, d, t⟩ := y
  simp only [beforeA] at h1 h2
  by_cases e : a = c
  · subst e
    by_cases e2 : b = d
    · subst e2
      cases s <;> cases t <;> simp_all
    · rw [if_pos rfl, if_neg e2, decide_eq_false_iff_not] at h1
      rw [if_pos rfl, if_neg (Ne.symm e2), decide_eq_false_iff_not] at h2
      omega
  · rw [if_neg e, decide_eq_false_iff_not] at h1
    rw [if_neg (Ne.symm e), decide_eq_false_iff_not] at h2
    omega
theorem ba_trans {x y z : Ac} (h1 : beforeA x y = true) (h2 : beforeA y z = true) : beforeA x z = true := by
  obtain ⟨a, b, s⟩ := x
  obtain ⟨c, d, t⟩ := y
  obtain ⟨e, f, u⟩ := z
  simp only [beforeA] at h1 h2 ⊢
  split at h1 <;> split at h2 <;> (try split at h1) <;> (try split at h2) <;> simp only [decide_eq_true_eq, Bool.and_eq_true, Bool.not_eq_true'] at h1 h2
  all_goals first
    | (rw [if_neg (by omega), decide_eq_true_eq]; omega)
    | (rw [if_pos (by omega), if_neg (by omega), decide_eq_true_eq]; omega)
    | (obtain ⟨p, q⟩ := h1; obtain ⟨p2, q2⟩ := h2; rw [q] at p2; cases p2)
theorem la_irr : ∀ l, lessAs l l = false
  | [] => rfl
  | a :: l => by simp [lessAs, la_irr l]
theorem la_trans : ∀ {x y z}, lessAs x y = true → lessAs y z = true → lessAs x z = true
  | x, [], z, h, _ => by cases x <;> simp [lessAs] at h
  | x, b :: y, [], _, h => by simp [lessAs] at h
  | [], b :: y, c :: z, _, _ => rfl
  | a :: x, b :: y, c :: z, h1, h2 => by
    simp only [lessAs] at h1 h2 ⊢
    by_cases e1 : a = b
    · subst e1
      rw [if_pos rfl] at h1
      by_cases e2 : a = c
      · rw [if_pos e2] at h2 ⊢
        exact la_trans h1 h2
      · rw [if_neg e2] at h2 ⊢
        exact h2
    · rw [if_neg e1] at h1
      by_cases e2 : b = c
      · subst e2
        rw [if_neg e1]
        exact h1
      · rw [if_neg e2] at h2
        have h3 := ba_trans h1 h2
        rw [if_neg (fun e => by subst e; rw [ba_irr] at h3; cases h3)]
        exact h3
theorem la_tri : ∀ {x y}, lessAs x y = false → lessAs y x = false → x = y
  | [], [], _, _ => rfl
  | [], _ :: _, h, _ => by simp [lessAs] at h
  | _ :: _, [], _, h => by simp [lessAs] at h
  | a :: x, b :: y, h1, h2 => by
    simp only [lessAs] at h1 h2
    by_cases e : a = b
    · subst e
      rw [if_pos rfl] at h1 h2
      rw [la_tri h1 h2]
    · rw [if_neg e] at h1
      rw [if_neg (Ne.symm e)] at h2
      exact (e (ba_tri h1 h2)).elim
theorem bytes_tri {a b : ByteArray} (h1 : Op.bytesLess a.toList b.toList = false) (h2 : Op.bytesLess b.toList a.toList = false) : a = b := bytes_inj (bl_tri h1 h2)
theorem ls_irr (a : Cl) : lssC a a = false := by simp [lssC, la_irr]
theorem ls_tri {a b : Cl} (h1 : lssC a b = false) (h2 : lssC b a = false) : a = b := by
  obtain ⟨s, d, l⟩ := a
  obtain ⟨s2, d2, l2⟩ := b
  simp only [lssC] at h1 h2
  by_cases e : s = s2
  · subst e
    by_cases e2 : d = d2
    · subst e2
      rw [if_pos rfl, if_pos rfl] at h1 h2
      rw [la_tri h1 h2]
    · rw [if_pos rfl, if_neg e2] at h1
      rw [if_pos rfl, if_neg (Ne.symm e2)] at h2
      exact (e2 (bytes_tri h1 h2)).elim
  · rw [if_neg e] at h1
    rw [if_neg (Ne.symm e)] at h2
    exact (e (bytes_tri h1 h2)).elim
theorem ls_trans {a b c : Cl} (h1 : lssC a b = true) (h2 : lssC b c = true) : lssC a c = true := by
  obtain ⟨s, d, l⟩ := a
  obtain ⟨s2, d2, l2⟩ := b
  obtain ⟨s3, d3, l3⟩ := c
  simp only [lssC] at h1 h2 ⊢
  by_cases e : s = s2
  · subst e
    rw [if_pos rfl] at h1
    by_cases f : s = s3
    · subst f
      rw [if_pos rfl] at h2 ⊢
      by_cases e2 : d = d2
      · subst e2
        rw [if_pos rfl] at h1
        by_cases f2 : d = d3
        · subst f2
          rw [if_pos rfl] at h2 ⊢
          exact la_trans h1 h2
        · rw [if_neg f2] at h2 ⊢
          exact h2
      · rw [if_neg e2] at h1
        by_cases f2 : d2 = d3
        · subst f2
          rw [if_neg e2]
          exact h1
        · rw [if_neg f2] at h2
          have h3 := bl_trans h1 h2
          rw [if_neg (fun e => by subst e; rw [bl_irr] at h3; cases h3)]
          exact h3
    · rw [if_neg f] at h2 ⊢
      exact h2
  · rw [if_neg e] at h1
    by_cases f : s2 = s3
    · subst f
      rw [if_neg e]
      exact h1
    · rw [if_neg f] at h2
      have h3 := bl_trans h1 h2
      rw [if_neg (fun e => by subst e; rw [bl_irr] at h3; cases h3)]
      exact h3
/-- A row in order. -/
def Ord (l : List Cl) : Prop := l.Pairwise fun a b => lssC a b = true
theorem ord_low {l : List Cl} (hl : Ord l) {c : Cl} {k : Nat} (hk : k ≤ l.length) (h : Low l c k) : ∀ x ∈ l.take k, lssC x c = true := by
  intro x hx
  obtain ⟨i, hi, rfl⟩ := List.mem_iff_getElem.1 hx
  rw [List.length_take] at hi
  rw [List.getElem_take]
  have hik : i < k := by omega
  have h1 := h l[k - 1] (by omega) (List.getElem?_eq_getElem (by omega))
  by_cases e : i = k - 1
  · subst e
    exact h1
  · exact ls_trans (List.pairwise_iff_getElem.1 hl i (k - 1) (by omega) (by omega) (by omega)) h1
theorem ord_high {l : List Cl} (hl : Ord l) {c : Cl} {k : Nat} (h : High l c k) (hne : l[k]? ≠ some c) : ∀ x ∈ l.drop k, lssC c x = true := by
  intro x hx
  obtain ⟨i, hi, rfl⟩ := List.mem_iff_getElem.1 hx
  rw [List.length_drop] at hi
  rw [List.getElem_drop]
  have h1 := h l[k] (List.getElem?_eq_getElem (by omega))
  have h2 : lssC c l[k] = true := by
    cases e : lssC c l[k] with
    | true => rfl
    | false => exact (hne (by rw [List.getElem?_eq_getElem (by omega), ls_tri h1 e])).elim
  rcases i with _ | i
  · exact h2
  · exact ls_trans h2 (List.pairwise_iff_getElem.1 hl k (k + (i + 1)) (by omega) (by omega) (by omega))
/-- A call that isn't at its place isn't in the row. -/
theorem ord_new {l : List Cl} (hl : Ord l) {c : Cl} {k : Nat} (hk : k ≤ l.length) (h : Low l c k) (h2 : High l c k) (hne : l[k]? ≠ some c) : c ∉ l := by
  intro hc
  rw [← List.take_append_drop k l, List.mem_append] at hc
  rcases hc with hc | hc
  · have := ord_low hl hk h c hc
    rw [ls_irr] at this
    cases this
  · have := ord_high hl h2 hne c hc
    rw [ls_irr] at this
    cases this
theorem ord_put {l : List Cl} (hl : Ord l) {c : Cl} {k : Nat} (hk : k ≤ l.length) (h : Low l c k) (h2 : High l c k) (hne : l[k]? ≠ some c) : Ord (l.take k ++ c :: l.drop k) := by
  have hs : Ord (l.take k ++ l.drop k) := by rw [List.take_append_drop]; exact hl
  obtain ⟨a1, a2, a3⟩ := List.pairwise_append.1 hs
  refine List.pairwise_append.2 ⟨a1, List.pairwise_cons.2 ⟨ord_high hl h2 hne, a2⟩, fun x hx y hy => ?_⟩
  rcases List.mem_cons.1 hy with rfl | hy
  · exact ord_low hl hk h x hx
  · exact a3 x hx y hy
instance decCl : DecidableEq Cl := fun x y =>
  if h : x.src = y.src ∧ x.dst = y.dst ∧ x.arcs = y.arcs then .isTrue (by cases x; cases y; simp_all) else .isFalse (fun e => h (by rw [e]; exact ⟨rfl, rfl, rfl⟩))
theorem eqC_iff (a b : Cl) : eqC a b = decide (a = b) := by
  obtain ⟨s, d, l⟩ := a
  obtain ⟨s2, d2, l2⟩ := b
  by_cases h1 : s = s2 <;> by_cases h2 : d = d2 <;> by_cases h3 : l = l2 <;> simp [eqC, h1, h2, h3]
/-- The row with a call put in, or as it was. -/
def putF (l : List Cl) (c : Cl) (k : Nat) : List Cl × Bool := if l[k]? = some c then (l, false) else (l.take k ++ c :: l.drop k, true)
theorem putF_law {l : List Cl} (hl : Ord l) {c : Cl} {k : Nat} (hk : k ≤ l.length) (h : Low l c k) (h2 : High l c k) : Ord (putF l c k).1 ∧ ((putF l c k).2 = true ↔ c ∉ l) ∧ (∀ x, x ∈ (putF l c k).1 ↔ x = c ∨ x ∈ l) ∧ (putF l c k).1.length = l.length + (putF l c k).2.toNat := by
  unfold putF
  split
  · rename_i e
    have hm : c ∈ l := List.mem_of_getElem? e
    refine ⟨hl, ⟨fun h => (by cases h), fun h => (h hm).elim⟩, fun x => ⟨.inr, ?_⟩, rfl⟩
    rintro (rfl | hx)
    · exact hm
    · exact hx
  · rename_i e
    refine ⟨ord_put hl hk h h2 e, ⟨fun _ => ord_new hl hk h h2 e, fun _ => rfl⟩, fun x => ?_, ?_⟩
    · have := List.take_append_drop k l
      constructor
      · intro hx
        rcases List.mem_append.1 hx with hx | hx
        · exact .inr (List.mem_of_mem_take hx)
        · rcases List.mem_cons.1 hx with rfl | hx
          · exact .inl rfl
          · exact .inr (List.mem_of_mem_drop hx)
      · rintro (rfl | hx)
        · exact List.mem_append_right _ (List.mem_cons_self ..)
        · rw [← this] at hx
          rcases List.mem_append.1 hx with hx | hx
          · exact List.mem_append_left _ hx
          · exact List.mem_append_right _ (List.mem_cons_of_mem _ hx)
    · simp only [List.length_append, List.length_take, List.length_cons, List.length_drop, Bool.toNat_true]
      omega
end Go.Proofs.Ytiepinfcndefhaa.S
