/- Plain mathematics: tables of 6 by 6 and their composition. No condition. -/
namespace Go.Proofs.Ytiepinfcndefhaa.S
set_option linter.unusedVariables false
set_option linter.unusedSimpArgs false

/-- An entry of a table of 6 by 6. -/
def tat (t : List Int) (i j : Nat) : Int := t.getD (6 * i + j) 0
def stepK (T S : List Int) (i j : Nat) (out : List Int) (k : Nat) : List Int :=
  if 0 < tat T i j ∧ 0 < tat S j k then out.set (6 * i + k) (max (max (tat out i k) (tat T i j)) (tat S j k)) else out
def rowK (T S : List Int) (i j : Nat) (out : List Int) (m : Nat) : List Int := (List.range m).foldl (stepK T S i j) out
def rowJ (T S : List Int) (i : Nat) (out : List Int) (m : Nat) : List Int := (List.range m).foldl (fun o j => rowK T S i j o 6) out
def rowI (T S : List Int) (m : Nat) : List Int := (List.range m).foldl (fun o i => rowJ T S i o 6) (List.replicate 36 0)
/-- The composition, in the order of the loops. -/
def comp (T S : List Int) : List Int := rowI T S 6
def bst (T S : List Int) (i k : Nat) (j : Nat) (m : Int) : Int := if 0 < tat T i j ∧ 0 < tat S j k then max (max m (tat T i j)) (tat S j k) else m
def best (T S : List Int) (i k : Nat) (m : Nat) (z : Int) : Int := (List.range m).foldl (fun m j => bst T S i k j m) z

theorem tat_set {t : List Int} (hl : t.length = 36) {i k i' k' : Nat} (hi : i < 6) (hk : k < 6) (hi' : i' < 6) (hk' : k' < 6) (x : Int) :
    tat (t.set (6 * i + k) x) i' k' = if i' = i ∧ k' = k then x else tat t i' k' := by
  unfold tat
  rw [List.getD_eq_getElem?_getD, List.getElem?_set]
  by_cases h : i' = i ∧ k' = k
  · obtain ⟨rfl, rfl⟩ := h
    rw [if_pos rfl, if_pos (by omega), if_pos ⟨rfl, rfl⟩]
    rfl
  · rw [if_neg (by omega), if_neg h, List.getD_eq_getElem?_getD]
theorem stepK_len (T S : List Int) (i j : Nat) (out : List Int) (k : Nat) : (stepK T S i j out k).length = out.length := by unfold stepK; split <;> simp
theorem stepK_at {T S out : List Int} {i j : Nat} (hl : out.length = 36) {k i' k' : Nat} (hi : i < 6) (hk : k < 6) (hi' : i' < 6) (hk' : k' < 6) :
    tat (stepK T S i j out k) i' k' = if i' = i ∧ k' = k then bst T S i k j (tat out i k) else tat out i' k' := by
  unfold stepK bst
  split
  · rw [tat_set hl hi hk hi' hk']
  · split
    · rename_i h; obtain ⟨rfl, rfl⟩ := h; rfl
    · rfl
theorem rowK_succ (T S : List Int) (i j : Nat) (out : List Int) (m : Nat) : rowK T S i j out (m + 1) = stepK T S i j (rowK T S i j out m) m := by unfold rowK; rw [List.range_succ, List.foldl_append]; rfl
theorem rowJ_succ (T S : List Int) (i : Nat) (out : List Int) (m : Nat) : rowJ T S i out (m + 1) = rowK T S i m (rowJ T S i out m) 6 := by unfold rowJ; rw [List.range_succ, List.foldl_append]; rfl
theorem rowI_succ (T S : List Int) (m : Nat) : rowI T S (m + 1) = rowJ T S m (rowI T S m) 6 := by unfold rowI; rw [List.range_succ, List.foldl_append]; rfl
theorem rowK_len (T S : List Int) (i j : Nat) (out : List Int) : ∀ m, (rowK T S i j out m).length = out.length
  | 0 => rfl
  | m + 1 => by rw [rowK_succ, stepK_len, rowK_len T S i j out m]
theorem rowJ_len (T S : List Int) (i : Nat) (out : List Int) : ∀ m, (rowJ T S i out m).length = out.length
  | 0 => rfl
  | m + 1 => by rw [rowJ_succ, rowK_len, rowJ_len T S i out m]
theorem rowI_len (T S : List Int) : ∀ m, (rowI T S m).length = 36
  | 0 => by simp [rowI]
  | m + 1 => by rw [rowI_succ, rowJ_len, rowI_len T S m]
theorem rowK_at {T S out : List Int} {i j : Nat} (hl : out.length = 36) (hi : i < 6) {i' k' : Nat} (hi' : i' < 6) (hk' : k' < 6) : ∀ m, m ≤ 6 →
    tat (rowK T S i j out m) i' k' = if i' = i ∧ k' < m then bst T S i k' j (tat out i k') else tat out i' k'
  | 0, _ => by rw [if_neg (by omega)]; rfl
  | m + 1, hm => by
    rw [rowK_succ, stepK_at (by rw [rowK_len, hl]) hi (by omega) hi' hk', rowK_at hl hi hi' hk' m (by omega), rowK_at hl hi hi (by omega : m < 6) m (by omega), if_neg (show ¬ (i = i ∧ m < m) by omega)]
    by_cases h : i' = i ∧ k' = m
    · obtain ⟨rfl, rfl⟩ := h
      rw [if_pos ⟨rfl, rfl⟩, if_pos ⟨rfl, by omega⟩]
    · rw [if_neg h]
      by_cases h2 : i' = i ∧ k' < m
      · rw [if_pos h2, if_pos ⟨h2.1, by omega⟩]
      · rw [if_neg h2, if_neg (by omega)]
theorem best_succ (T S : List Int) (i k m : Nat) (z : Int) : best T S i k (m + 1) z = bst T S i k m (best T S i k m z) := by unfold best; rw [List.range_succ, List.foldl_append]; rfl
theorem rowJ_at {T S out : List Int} {i : Nat} (hl : out.length = 36) (hi : i < 6) {i' k' : Nat} (hi' : i' < 6) (hk' : k' < 6) : ∀ m, m ≤ 6 →
    tat (rowJ T S i out m) i' k' = if i' = i then best T S i k' m (tat out i k') else tat out i' k'
  | 0, _ => by
    by_cases h : i' = i
    · subst h; rw [if_pos rfl]; rfl
    · rw [if_neg h]; rfl
  | m + 1, hm => by
    rw [rowJ_succ, rowK_at (by rw [rowJ_len, hl]) hi hi' hk' 6 (Nat.le_refl _), rowJ_at hl hi hi' hk' m (by omega), rowJ_at hl hi hi hk' m (by omega), if_pos rfl, best_succ]
    by_cases h : i' = i
    · rw [if_pos ⟨h, hk'⟩, if_pos h]
    · rw [if_neg (by omega), if_neg h, if_neg h]
theorem tat_zero (i k : Nat) : tat (List.replicate 36 0) i k = 0 := by
  unfold tat
  rw [List.getD_eq_getElem?_getD, List.getElem?_replicate]
  split <;> rfl
theorem rowI_at {T S : List Int} {i' k' : Nat} (hi' : i' < 6) (hk' : k' < 6) : ∀ m, m ≤ 6 → tat (rowI T S m) i' k' = if i' < m then best T S i' k' 6 0 else 0
  | 0, _ => by rw [if_neg (by omega)]; exact tat_zero _ _
  | m + 1, hm => by
    rw [rowI_succ, rowJ_at (rowI_len T S m) (by omega) hi' hk' 6 (Nat.le_refl _), rowI_at hi' hk' m (by omega), rowI_at (by omega : m < 6) hk' m (by omega), if_neg (Nat.lt_irrefl m)]
    by_cases h : i' = m
    · subst h; rw [if_pos rfl, if_pos (by omega)]
    · rw [if_neg h]
      by_cases h2 : i' < m
      · rw [if_pos h2, if_pos (by omega)]
      · rw [if_neg h2, if_neg (by omega)]
theorem comp_at {T S : List Int} {i k : Nat} (hi : i < 6) (hk : k < 6) : tat (comp T S) i k = best T S i k 6 0 := by
  unfold comp
  rw [rowI_at hi hk 6 (Nat.le_refl _), if_pos hi]
theorem comp_len (T S : List Int) : (comp T S).length = 36 := rowI_len T S 6

/-- A table: 36 entries, each 0, 1 or 2. -/
structure Tab (t : List Int) : Prop where
  len : t.length = 36
  lo : ∀ i k, 0 ≤ tat t i k
  hi : ∀ i k, tat t i k ≤ 2
theorem tab_ext {t s : List Int} (ht : t.length = 36) (hs : s.length = 36) (h : ∀ i k, i < 6 → k < 6 → tat t i k = tat s i k) : t = s := by
  apply List.ext_getElem (by omega)
  intro n h1 h2
  have e := h (n / 6) (n % 6) (by omega) (by omega)
  unfold tat at e
  rw [show 6 * (n / 6) + n % 6 = n by omega, List.getD_eq_getElem?_getD, List.getD_eq_getElem?_getD, List.getElem?_eq_getElem h1, List.getElem?_eq_getElem h2] at e
  exact e
/-- An arc of the composition; a strict one. -/
theorem best_pos {T S : List Int} (hT : Tab T) (hS : Tab S) (i k : Nat) : ∀ m, 0 ≤ best T S i k m 0 ∧ best T S i k m 0 ≤ 2 ∧ (0 < best T S i k m 0 ↔ ∃ j, j < m ∧ 0 < tat T i j ∧ 0 < tat S j k) ∧
    (best T S i k m 0 = 2 ↔ ∃ j, j < m ∧ 0 < tat T i j ∧ 0 < tat S j k ∧ (tat T i j = 2 ∨ tat S j k = 2))
  | 0 => ⟨Int.le_refl _, (show (0 : Int) ≤ 2 by omega), ⟨fun h => absurd (show (0 : Int) < 0 from h) (by omega), fun ⟨_, h, _⟩ => absurd h (by omega)⟩, ⟨fun h => absurd (show (0 : Int) = 2 from h) (by omega), fun ⟨_, h, _⟩ => absurd h (by omega)⟩⟩
  | m + 1 => by
    obtain ⟨h0, h1, h2, h3⟩ := best_pos hT hS i k m
    have a1 := hT.lo i m
    have a2 := hT.hi i m
    have b1 := hS.lo m k
    have b2 := hS.hi m k
    rw [best_succ]
    unfold bst
    have hex : ∀ (p : Nat → Prop), (∃ j, j < m + 1 ∧ p j) ↔ (∃ j, j < m ∧ p j) ∨ p m := fun p => ⟨fun ⟨j, hj, hp⟩ => by
      by_cases e : j = m
      · subst e; exact .inr hp
      · exact .inl ⟨j, by omega, hp⟩, fun h => h.elim (fun ⟨j, hj, hp⟩ => ⟨j, by omega, hp⟩) fun hp => ⟨m, by omega, hp⟩⟩
    by_cases c : 0 < tat T i m ∧ 0 < tat S m k
    · rw [if_pos c, hex, hex, ← h2, ← h3]
      refine ⟨by omega, by omega, ⟨fun _ => .inr c, fun _ => by omega⟩, ⟨fun h => ?_, fun h => ?_⟩⟩
      · by_cases e : best T S i k m 0 = 2
        · exact .inl e
        · exact .inr ⟨c.1, c.2, by omega⟩
      · rcases h with h | ⟨_, _, h⟩ <;> omega
    · rw [if_neg c, hex, hex, ← h2, ← h3]
      exact ⟨h0, h1, ⟨.inl, fun h => h.elim id fun h => (c h).elim⟩, ⟨.inl, fun h => h.elim id fun h => (c ⟨h.1, h.2.1⟩).elim⟩⟩
theorem tat_out {t : List Int} (hl : t.length = 36) {i k : Nat} (h : 36 ≤ 6 * i + k) : tat t i k = 0 := by
  unfold tat
  rw [List.getD_eq_getElem?_getD, List.getElem?_eq_none (by omega)]
  rfl
theorem tat_norm {t : List Int} {i k : Nat} : tat t i k = tat t ((6 * i + k) / 6) ((6 * i + k) % 6) := by
  unfold tat
  rw [show 6 * ((6 * i + k) / 6) + (6 * i + k) % 6 = 6 * i + k by omega]
theorem comp_tab {T S : List Int} (hT : Tab T) (hS : Tab S) : Tab (comp T S) := by
  have h : ∀ i k, 0 ≤ tat (comp T S) i k ∧ tat (comp T S) i k ≤ 2 := fun i k => by
    by_cases e : 6 * i + k < 36
    · rw [tat_norm, comp_at (by omega) (by omega)]
      have := best_pos hT hS ((6 * i + k) / 6) ((6 * i + k) % 6) 6
      exact ⟨this.1, this.2.1⟩
    · rw [tat_out (comp_len T S) (by omega)]; omega
  exact ⟨comp_len T S, fun i k => (h i k).1, fun i k => (h i k).2⟩
theorem comp_pos {T S : List Int} (hT : Tab T) (hS : Tab S) {i k : Nat} (hi : i < 6) (hk : k < 6) : 0 < tat (comp T S) i k ↔ ∃ j, j < 6 ∧ 0 < tat T i j ∧ 0 < tat S j k := by
  rw [comp_at hi hk]; exact (best_pos hT hS i k 6).2.2.1
theorem comp_two {T S : List Int} (hT : Tab T) (hS : Tab S) {i k : Nat} (hi : i < 6) (hk : k < 6) : tat (comp T S) i k = 2 ↔ ∃ j, j < 6 ∧ 0 < tat T i j ∧ 0 < tat S j k ∧ (tat T i j = 2 ∨ tat S j k = 2) := by
  rw [comp_at hi hk]; exact (best_pos hT hS i k 6).2.2.2
theorem tab_eq {t s : List Int} (ht : Tab t) (hs : Tab s) (h1 : ∀ i k, i < 6 → k < 6 → (0 < tat t i k ↔ 0 < tat s i k)) (h2 : ∀ i k, i < 6 → k < 6 → (tat t i k = 2 ↔ tat s i k = 2)) : t = s :=
  tab_ext ht.len hs.len fun i k hi hk => by
    have a1 := h1 i k hi hk
    have a2 := h2 i k hi hk
    have := ht.lo i k
    have := ht.hi i k
    have := hs.lo i k
    have := hs.hi i k
    by_cases c : 0 < tat t i k
    · have := a1.1 c
      by_cases d : tat t i k = 2
      · have := a2.1 d; omega
      · have : ¬ tat s i k = 2 := fun e => d (a2.2 e)
        omega
    · have : ¬ 0 < tat s i k := fun e => c (a1.2 e)
      omega
/-- Composing is associative. -/
theorem comp_assoc {A B C : List Int} (hA : Tab A) (hB : Tab B) (hC : Tab C) : comp (comp A B) C = comp A (comp B C) := by
  have hAB := comp_tab hA hB
  have hBC := comp_tab hB hC
  refine tab_eq (comp_tab hAB hC) (comp_tab hA hBC) (fun i k hi hk => ?_) fun i k hi hk => ?_
  · rw [comp_pos hAB hC hi hk, comp_pos hA hBC hi hk]
    constructor
    · rintro ⟨j, hj, h1, h2⟩
      obtain ⟨m, hm, h3, h4⟩ := (comp_pos hA hB hi hj).1 h1
      exact ⟨m, hm, h3, (comp_pos hB hC hm hk).2 ⟨j, hj, h4, h2⟩⟩
    · rintro ⟨m, hm, h1, h2⟩
      obtain ⟨j, hj, h3, h4⟩ := (comp_pos hB hC hm hk).1 h2
      exact ⟨j, hj, (comp_pos hA hB hi hj).2 ⟨m, hm, h1, h3⟩, h4⟩
  · rw [comp_two hAB hC hi hk, comp_two hA hBC hi hk]
    constructor
    · rintro ⟨j, hj, h1, h2, h3⟩
      rcases h3 with h3 | h3
      · obtain ⟨m, hm, h4, h5, h6⟩ := (comp_two hA hB hi hj).1 h3
        refine ⟨m, hm, h4, (comp_pos hB hC hm hk).2 ⟨j, hj, h5, h2⟩, ?_⟩
        rcases h6 with h6 | h6
        · exact .inl h6
        · exact .inr ((comp_two hB hC hm hk).2 ⟨j, hj, h5, h2, .inl h6⟩)
      · obtain ⟨m, hm, h4, h5⟩ := (comp_pos hA hB hi hj).1 h1
        exact ⟨m, hm, h4, (comp_pos hB hC hm hk).2 ⟨j, hj, h5, h2⟩, .inr ((comp_two hB hC hm hk).2 ⟨j, hj, h5, h2, .inr h3⟩)⟩
    · rintro ⟨m, hm, h1, h2, h3⟩
      rcases h3 with h3 | h3
      · obtain ⟨j, hj, h4, h5⟩ := (comp_pos hB hC hm hk).1 h2
        exact ⟨j, hj, (comp_pos hA hB hi hj).2 ⟨m, hm, h1, h4⟩, h5, .inl ((comp_two hA hB hi hj).2 ⟨m, hm, h1, h4, .inl h3⟩)⟩
      · obtain ⟨j, hj, h4, h5, h6⟩ := (comp_two hB hC hm hk).1 h3
        refine ⟨j, hj, (comp_pos hA hB hi hj).2 ⟨m, hm, h1, h4⟩, h5, ?_⟩
        rcases h6 with h6 | h6
        · exact .inl ((comp_two hA hB hi hj).2 ⟨m, hm, h1, h4, .inr h6⟩)
        · exact .inr h6
end Go.Proofs.Ytiepinfcndefhaa.S
