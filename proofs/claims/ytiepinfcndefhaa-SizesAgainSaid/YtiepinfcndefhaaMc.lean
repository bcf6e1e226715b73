/- Plain mathematics: what Terminates answers; that fewer calls and greater arcs keep it. No condition. -/
import Derived.Test.YtiepinfcndefhaaMb
namespace Go.Proofs.Ytiepinfcndefhaa.S
set_option linter.unusedVariables false
set_option linter.unusedSimpArgs false

structure Ac where
  a : Int
  b : Int
  s : Bool
structure Cl where
  src : ByteArray
  dst : ByteArray
  arcs : List Ac
def okA (x : Ac) : Bool := decide (0 ≤ x.a) && decide (x.a < 6) && decide (0 ≤ x.b) && decide (x.b < 6)
def setA (t : List Int) (x : Ac) : List Int := t.set (6 * x.a.toNat + x.b.toNat) (max (tat t x.a.toNat x.b.toNat) (if x.s = true then 2 else 1))
def zeros : List Int := List.replicate 36 0
/-- The graph of a call, if it is one. -/
def readC (c : Cl) : Option Gr := if c.src.size = 0 ∨ c.dst.size = 0 then none else if c.arcs.all okA = true then some ⟨c.src, c.dst, c.arcs.foldl setA zeros⟩ else none
def readL : List Cl → Option (List Gr)
  | [] => some []
  | c :: l => (readC c).bind fun g => (readL l).map fun r => g :: r
def descB (g : Gr) : Bool := (List.range 6).any fun i => tat g.tab i i == 2
def loopB (g : Gr) : Bool := decide (g.src = g.dst) && decide (thenG g g = g)
def badB (g : Gr) : Bool := loopB g && !descB g
theorem badB_iff {g : Gr} : badB g = true ↔ Bad g := by
  unfold badB loopB descB Bad
  simp [List.any_eq_true]
  constructor
  · rintro ⟨⟨h1, h2⟩, h3⟩
    exact ⟨h1, h2, fun i hi => h3 i hi⟩
  · rintro ⟨h1, h2, h3⟩
    exact ⟨⟨h1, h2⟩, h3⟩
theorem zeros_tab : Tab zeros := ⟨by simp [zeros], fun i k => by rw [zeros, tat_zero]; omega, fun i k => by rw [zeros, tat_zero]; omega⟩
theorem setA_at {t : List Int} (hl : t.length = 36) {x : Ac} (hx : okA x = true) {i k : Nat} (hi : i < 6) (hk : k < 6) : tat (setA t x) i k = if i = x.a.toNat ∧ k = x.b.toNat then max (tat t i k) (if x.s = true then 2 else 1) else tat t i k := by
  simp only [okA, Bool.and_eq_true, decide_eq_true_eq] at hx
  unfold setA
  rw [tat_set hl (by omega) (by omega) hi hk]
  split
  · rename_i h; obtain ⟨rfl, rfl⟩ := h; rfl
  · rfl
theorem setA_len (t : List Int) (x : Ac) : (setA t x).length = t.length := by simp [setA]
theorem setA_tab {t : List Int} (ht : Tab t) {x : Ac} (hx : okA x = true) : Tab (setA t x) := by
  have h : ∀ i k, 0 ≤ tat (setA t x) i k ∧ tat (setA t x) i k ≤ 2 := fun i k => by
    by_cases e : 6 * i + k < 36
    · rw [tat_norm, setA_at ht.len hx (by omega) (by omega)]
      have := ht.lo ((6 * i + k) / 6) ((6 * i + k) % 6)
      have := ht.hi ((6 * i + k) / 6) ((6 * i + k) % 6)
      split
      · split <;> omega
      · omega
    · rw [tat_out (by rw [setA_len, ht.len]) (by omega)]; omega
  exact ⟨by rw [setA_len, ht.len], fun i k => (h i k).1, fun i k => (h i k).2⟩
theorem setA_le {t : List Int} (ht : Tab t) {x : Ac} (hx : okA x = true) : Le t (setA t x) := fun i k hi hk => by
  rw [setA_at ht.len hx hi hk]
  split
  · omega
  · omega
theorem arcs_tab : ∀ (l : List Ac) (t : List Int), Tab t → l.all okA = true → Tab (l.foldl setA t)
  | [], _, ht, _ => ht
  | x :: l, t, ht, h => by
    simp only [List.all_cons, Bool.and_eq_true] at h
    exact arcs_tab l _ (setA_tab ht h.1) h.2
theorem readC_tab {c : Cl} {g : Gr} (h : readC c = some g) : GTab g := by
  unfold readC at h
  split at h
  · cases h
  · split at h
    · cases h; exact arcs_tab _ _ zeros_tab (by assumption)
    · cases h
theorem readL_get : ∀ (l : List Cl) (r : List Gr), readL l = some r → r.length = l.length ∧ ∀ (i : Nat) (h1 : i < l.length) (h2 : i < r.length), readC l[i] = some r[i]
  | [], r, h => by cases h; exact ⟨rfl, fun i h1 => absurd h1 (by simp)⟩
  | c :: l, r, h => by
    obtain ⟨g, h1, h2⟩ := Option.bind_eq_some_iff.1 h
    obtain ⟨r, h3, rfl⟩ := Option.map_eq_some_iff.1 h2
    obtain ⟨e1, e2⟩ := readL_get l r h3
    refine ⟨by simp [e1], fun i h4 h5 => ?_⟩
    cases i with
    | zero => exact h1
    | succ i => exact e2 i (by simpa using h4) (by simpa using h5)
theorem readL_tab {l : List Cl} {r : List Gr} (h : readL l = some r) : ∀ g ∈ r, GTab g := fun g hg => by
  obtain ⟨e1, e2⟩ := readL_get l r h
  obtain ⟨i, hi, rfl⟩ := List.getElem_of_mem hg
  exact readC_tab (e2 i (by omega) hi)
theorem readL_some : ∀ (l : List Cl), (∀ c ∈ l, ∃ g, readC c = some g) → ∃ r, readL l = some r
  | [], _ => ⟨[], rfl⟩
  | c :: l, h => by
    obtain ⟨g, hg⟩ := h c List.mem_cons_self
    obtain ⟨r, hr⟩ := readL_some l fun x hx => h x (List.mem_cons_of_mem _ hx)
    exact ⟨g :: r, by simp [readL, hg, hr]⟩
theorem readL_sub {l l2 : List Cl} (hs : ∀ c ∈ l2, c ∈ l) {r : List Gr} (h : readL l = some r) : ∃ r2, readL l2 = some r2 ∧ ∀ g ∈ r2, g ∈ r := by
  obtain ⟨e1, e2⟩ := readL_get l r h
  obtain ⟨r2, h2⟩ := readL_some l2 fun c hc => by
    obtain ⟨i, hi, rfl⟩ := List.getElem_of_mem (hs c hc)
    exact ⟨_, e2 i hi (by omega)⟩
  refine ⟨r2, h2, fun g hg => ?_⟩
  obtain ⟨f1, f2⟩ := readL_get l2 r2 h2
  obtain ⟨i, hi, rfl⟩ := List.getElem_of_mem hg
  have h3 := f2 i (by omega) hi
  obtain ⟨j, hj, e⟩ := List.getElem_of_mem (hs l2[i] (List.getElem_mem (by omega)))
  have h4 := e2 j hj (by omega)
  rw [e, h3] at h4
  rw [Option.some.inj h4]
  exact List.getElem_mem _
/-- What Terminates answers. -/
def closedF (l : List Cl) (form limit : Int) : Option (List Mk) × Int := if 60 < l.length then (none, limit) else match readL l with
  | none => (none, form)
  | some first => match closedQ first with
    | none => (none, limit)
    | some a => (some a, 0)
def termF (l : List Cl) (form limit : Int) : Bool × Int := match closedF l form limit with
  | (some a, e) => (!a.any (fun m => badB m.1), e)
  | (none, e) => (false, e)
theorem termF_ok {l : List Cl} {form limit : Int} (hf : form ≠ 0) (hl : limit ≠ 0) (h : (termF l form limit).2 = 0) : ∃ first a, l.length ≤ 60 ∧ readL l = some first ∧ closedQ first = some a ∧ (termF l form limit).1 = !a.any (fun m => badB m.1) := by
  unfold termF closedF at h ⊢
  split at h
  · rename_i heq
    split at heq
    · cases heq
    · cases hr : readL l with
      | none => rw [hr] at heq; cases heq
      | some first =>
        rw [hr] at heq
        cases hc : closedQ first with
        | none => simp only [hc] at heq; cases heq
        | some a =>
          simp only [hc] at heq
          obtain ⟨e1, _⟩ := Prod.mk.inj heq
          rw [← Option.some.inj e1]
          exact ⟨first, a, by omega, rfl, hc, rfl⟩
  · rename_i heq
    split at heq
    · cases heq; exact (hl h).elim
    · cases hr : readL l with
      | none => rw [hr] at heq; cases heq; exact (hf h).elim
      | some first =>
        rw [hr] at heq
        cases hc : closedQ first with
        | none => simp only [hc] at heq; cases heq; exact (hl h).elim
        | some a => simp only [hc] at heq; cases heq
/-- Fewer calls of a set that terminates do so, or are too many on the way. -/
theorem term_fewer {l l2 : List Cl} {form limit : Int} (hf : form ≠ 0) (hl : limit ≠ 0) (hfl : form ≠ limit) (h : termF l form limit = (true, 0)) (hs : ∀ c ∈ l2, c ∈ l) (hlen : l2.length ≤ l.length) :
    termF l2 form limit = (true, 0) ∨ (termF l2 form limit).2 = limit := by
  obtain ⟨first, a, h1, h2, h3, h4⟩ := termF_ok hf hl (by rw [h])
  rw [h] at h4
  obtain ⟨few, h5, h6⟩ := readL_sub hs h2
  have hgood : ∀ m ∈ a, ¬ Bad m.1 := fun m hm hb => by
    have : a.any (fun m => badB m.1) = true := List.any_eq_true.2 ⟨m, hm, badB_iff.2 hb⟩
    rw [this] at h4
    cases h4
  cases hc : closedQ few with
  | none =>
    right
    unfold termF closedF
    rw [if_neg (by omega), h5]
    simp only [hc]
  | some b =>
    left
    have hg2 := fewer_good h6 h3 hgood hc
    unfold termF closedF
    rw [if_neg (by omega), h5]
    simp only [hc]
    have : b.any (fun m => badB m.1) = false := by
      rw [Bool.eq_false_iff]
      intro hb
      obtain ⟨m, hm, e⟩ := List.any_eq_true.1 hb
      exact hg2 m hm (badB_iff.1 e)
    rw [this]
    rfl
/-- With an arc more at some places it still terminates, unless an error is told. -/
theorem term_more {l l2 : List Cl} {form limit : Int} (hf : form ≠ 0) (hl : limit ≠ 0) (h : termF l form limit = (true, 0)) (hlen : l2.length = l.length)
    (hm : ∀ (i : Nat) (h1 : i < l.length) (h2 : i < l2.length), l2[i].src = l[i].src ∧ l2[i].dst = l[i].dst ∧ ∃ x, l2[i].arcs = l[i].arcs ++ x) (h0 : (termF l2 form limit).2 = 0) : (termF l2 form limit).1 = true := by
  obtain ⟨first, a, h1, h2, h3, h4⟩ := termF_ok hf hl (by rw [h])
  rw [h] at h4
  have hgood : ∀ m ∈ a, ¬ Bad m.1 := fun m hm hb => by
    have : a.any (fun m => badB m.1) = true := List.any_eq_true.2 ⟨m, hm, badB_iff.2 hb⟩
    rw [this] at h4
    cases h4
  obtain ⟨more, b, _, k2, k3, k4⟩ := termF_ok hf hl h0
  obtain ⟨e1, e2⟩ := readL_get _ _ h2
  obtain ⟨f1, f2⟩ := readL_get _ _ k2
  have ho : Over first more := by
    refine ⟨by omega, fun i g h hg hh => ?_⟩
    obtain ⟨g1, rfl⟩ := List.getElem?_eq_some_iff.1 hg
    obtain ⟨g2, rfl⟩ := List.getElem?_eq_some_iff.1 hh
    have q1 := e2 i (by omega) g1
    have q2 := f2 i (by omega) g2
    obtain ⟨s1, s2, x, s3⟩ := hm i (by omega) (by omega)
    unfold readC at q1 q2
    split at q1
    · cases q1
    · split at q1
      · rename_i _ hall
        split at q2
        · cases q2
        · split at q2
          · rename_i _ hall2
            have q1 := Option.some.inj q1
            have q2 := Option.some.inj q2
            rw [← q1, ← q2]
            refine ⟨s1.symm, s2.symm, ?_⟩
            show Le (l[i].arcs.foldl setA zeros) (l2[i].arcs.foldl setA zeros)
            rw [s3, List.foldl_append]
            rw [s3, List.all_append, Bool.and_eq_true] at hall2
            have key : ∀ (x : List Ac) (t : List Int), Tab t → x.all okA = true → Le t (x.foldl setA t) := by
              intro x
              induction x with
              | nil => exact fun t _ _ i k _ _ => Int.le_refl _
              | cons y x ih =>
                intro t ht hx i k hi hk
                simp only [List.all_cons, Bool.and_eq_true] at hx
                exact Int.le_trans (setA_le ht hx.1 i k hi hk) (ih _ (setA_tab ht hx.1) hx.2 i k hi hk)
            exact key x _ (arcs_tab _ _ zeros_tab hall) hall2.2
          · cases q2
      · cases q1
  rw [k4]
  have : b.any (fun m => badB m.1) = false := by
    rw [Bool.eq_false_iff]
    intro hb
    obtain ⟨m, hmm, e⟩ := List.any_eq_true.1 hb
    exact over_good (readL_tab h2) (readL_tab k2) ho h3 hgood ((closedQ_some k3).1.path m hmm) (badB_iff.1 e)
  rw [this]
  rfl
end Go.Proofs.Ytiepinfcndefhaa.S
