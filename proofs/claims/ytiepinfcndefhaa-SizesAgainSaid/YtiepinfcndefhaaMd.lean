/- Plain mathematics: the normal call of a graph is read back as the graph; composing calls. No condition. -/
import Derived.Test.YtiepinfcndefhaaTc
namespace Go.Proofs.Ytiepinfcndefhaa.S
set_option linter.unusedVariables false
set_option linter.unusedSimpArgs false

theorem arcsN_ok (t : List Int) : ∀ n, n ≤ 36 → (arcsN t n).all okA = true
  | 0, _ => rfl
  | n + 1, h => by
    have ih := arcsN_ok t n (by omega)
    unfold arcsN
    split
    · rw [List.all_append, ih]
      simp [okA]
      omega
    · exact ih
theorem tab_ext36 {s t : List Int} (hs : s.length = 36) (ht : t.length = 36) (h : ∀ i k, i < 6 → k < 6 → tat s i k = tat t i k) : s = t := by
  apply List.ext_getElem (by rw [hs, ht])
  intro n h1 h2
  have h3 := h (n / 6) (n % 6) (by omega) (by omega)
  unfold tat at h3
  rw [show 6 * (n / 6) + n % 6 = n by omega, List.getD_eq_getElem?_getD, List.getD_eq_getElem?_getD, List.getElem?_eq_getElem h1, List.getElem?_eq_getElem h2] at h3
  exact h3
theorem fold_at {t : List Int} (ht : Tab t) : ∀ n, n ≤ 36 → ((arcsN t n).foldl setA zeros).length = 36 ∧ ∀ i k, i < 6 → k < 6 → tat ((arcsN t n).foldl setA zeros) i k = if 6 * i + k < n then tat t i k else 0
  | 0, _ => ⟨by simp [arcsN, zeros], fun i k hi hk => by simp only [arcsN, List.foldl_nil]; rw [if_neg (by omega)]; exact tat_zero _ _⟩
  | n + 1, h => by
    obtain ⟨ih1, ih2⟩ := fold_at ht n (by omega)
    have hlo := ht.lo (n / 6) (n % 6)
    have hhi := ht.hi (n / 6) (n % 6)
    unfold arcsN
    by_cases hp : 0 < tat t (n / 6) (n % 6)
    · rw [if_pos hp, List.foldl_append]
      simp only [List.foldl_cons, List.foldl_nil]
      refine ⟨by rw [setA_len]; exact ih1, fun i k hi hk => ?_⟩
      rw [setA_at ih1 (by simp [okA]; omega) hi hk]
      simp only [Int.toNat_natCast]
      by_cases he : i = n / 6 ∧ k = n % 6
      · obtain ⟨rfl, rfl⟩ := he
        rw [if_pos ⟨rfl, rfl⟩, ih2 _ _ hi hk, if_neg (show ¬ 6 * (n / 6) + n % 6 < n by omega), if_pos (show 6 * (n / 6) + n % 6 < n + 1 by omega)]
        by_cases h2 : tat t (n / 6) (n % 6) = 2
        · rw [h2]; simp; rfl
        · have h1 : tat t (n / 6) (n % 6) = 1 := by omega
          rw [h1]; simp; rfl
      · rw [if_neg he, ih2 _ _ hi hk]
        by_cases hlt : 6 * i + k < n
        · rw [if_pos hlt, if_pos (by omega)]
        · rw [if_neg hlt, if_neg (by omega)]
    · rw [if_neg hp]
      refine ⟨ih1, fun i k hi hk => ?_⟩
      rw [ih2 _ _ hi hk]
      by_cases hlt : 6 * i + k < n
      · rw [if_pos hlt, if_pos (by omega)]
      · rw [if_neg hlt]
        by_cases he : 6 * i + k = n
        · have e1 : i = n / 6 := by omega
          have e2 : k = n % 6 := by omega
          rw [if_pos (by omega), e1, e2]
          omega
        · rw [if_neg (by omega)]
/-- The normal call of a graph is read back as the graph. -/
theorem readC_callG {g : Gr} (hg : GTab g) (h1 : g.src.size ≠ 0) (h2 : g.dst.size ≠ 0) : readC (callG g) = some g := by
  unfold readC callG
  rw [if_neg (by simp [h1, h2])]
  have h3 := arcsN_ok g.tab 36 (Nat.le_refl _)
  rw [if_pos h3]
  obtain ⟨h4, h5⟩ := fold_at hg 36 (Nat.le_refl _)
  have h6 : (arcsN g.tab 36).foldl setA zeros = g.tab := tab_ext36 h4 hg.len (fun i k hi hk => by rw [h5 i k hi hk, if_pos (by omega)])
  rw [h6]
theorem readC_src {c : Cl} {g : Gr} (h : readC c = some g) : g.src = c.src ∧ g.dst = c.dst ∧ c.src.size ≠ 0 ∧ c.dst.size ≠ 0 := by
  unfold readC at h
  split at h
  · cases h
  · rename_i h0
    split at h
    · cases h
      simp only [not_or] at h0
      exact ⟨rfl, rfl, h0.1, h0.2⟩
    · cases h
/-- What Compose answers. -/
def compF (a b : Cl) : Cl × Int := match readC a, readC b with
  | some g, some h => if g.dst = h.src then (callG (thenG g h), 0) else (dfC, 4)
  | _, _ => (dfC, 4)
theorem compF_ok {a b : Cl} (h : (compF a b).2 = 0) : ∃ g k, readC a = some g ∧ readC b = some k ∧ g.dst = k.src ∧ compF a b = (callG (thenG g k), 0) := by
  unfold compF at h ⊢
  cases ha : readC a with
  | none => rw [ha] at h; simp at h
  | some g =>
    cases hb : readC b with
    | none => rw [ha, hb] at h; simp at h
    | some k =>
      rw [ha, hb] at h
      simp only at h ⊢
      by_cases he : g.dst = k.src
      · rw [if_pos he]
        exact ⟨g, k, rfl, rfl, he, rfl⟩
      · rw [if_neg he] at h
        simp at h
theorem assoc_pure {a b c : Cl} (h1 : (compF a b).2 = 0) (h2 : (compF b c).2 = 0) : ∃ d, compF (compF a b).1 c = (d, 0) ∧ compF a (compF b c).1 = (d, 0) := by
  obtain ⟨g, k, hg, hk, e1, r1⟩ := compF_ok h1
  obtain ⟨k', m, hk', hm, e2, r2⟩ := compF_ok h2
  rw [hk] at hk'
  cases hk'
  have tg := readC_tab hg
  have tk := readC_tab hk
  have tm := readC_tab hm
  obtain ⟨g1, g2, g3, g4⟩ := readC_src hg
  obtain ⟨k1, k2, k3, k4⟩ := readC_src hk
  obtain ⟨m1, m2, m3, m4⟩ := readC_src hm
  have q1 : readC (callG (thenG g k)) = some (thenG g k) := readC_callG (thenG_tab tg tk) (by show g.src.size ≠ 0; rw [g1]; exact g3) (by show k.dst.size ≠ 0; rw [k2]; exact k4)
  have q2 : readC (callG (thenG k m)) = some (thenG k m) := readC_callG (thenG_tab tk tm) (by show k.src.size ≠ 0; rw [k1]; exact k3) (by show m.dst.size ≠ 0; rw [m2]; exact m4)
  rw [r1, r2]
  refine ⟨callG (thenG (thenG g k) m), ?_, ?_⟩
  · unfold compF
    simp only [q1, hm]
    rw [if_pos (show (thenG g k).dst = m.src from e2)]
  · unfold compF
    simp only [hg, q2]
    rw [if_pos (show g.dst = (thenG k m).src from e1), thenG_assoc tg tk tm]
end Go.Proofs.Ytiepinfcndefhaa.S
