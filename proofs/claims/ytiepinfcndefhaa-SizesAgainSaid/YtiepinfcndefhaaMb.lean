/- Plain mathematics: the closure of calls under composition. No condition. -/
import Derived.Test.YtiepinfcndefhaaMa
namespace Go.Proofs.Ytiepinfcndefhaa.S
set_option linter.unusedVariables false
set_option linter.unusedSimpArgs false

/-- A call as a graph. -/
structure Gr where
  src : ByteArray
  dst : ByteArray
  tab : List Int
deriving DecidableEq
def thenG (g h : Gr) : Gr := ⟨g.src, h.dst, comp g.tab h.tab⟩
abbrev Mk := Gr × List Int
def addM (all : List Mk) (g : Gr) (way : List Int) : Option (List Mk) := if all.any (fun m => decide (m.1 = g)) = true then some all else if 2000 < all.length + 1 then none else some (all ++ [(g, way)])
def extL (first : List Gr) (m : Mk) : Nat → Nat → List Mk → Option (List Mk)
  | 0, _, all => some all
  | d + 1, i, all => if m.1.dst = (first.getD i ⟨.empty, .empty, []⟩).src then (addM all (thenG m.1 (first.getD i ⟨.empty, .empty, []⟩)) (m.2 ++ [(i : Int)])).bind fun a => extL first m d (i + 1) a else extL first m d (i + 1) all
def addL (first : List Gr) : Nat → Nat → List Mk → Option (List Mk)
  | 0, _, all => some all
  | d + 1, i, all => (addM all (first.getD i ⟨.empty, .empty, []⟩) [(i : Int)]).bind fun a => addL first d (i + 1) a
def runQ (first : List Gr) : Nat → Nat → List Mk → Option (List Mk)
  | 0, _, all => some all
  | d + 1, p, all => if p < all.length then (extL first (all.getD p (⟨.empty, .empty, []⟩, [])) first.length 0 all).bind fun a => runQ first d (p + 1) a else some all
def closedQ (first : List Gr) : Option (List Mk) := (addL first first.length 0 []).bind fun a => runQ first 2001 0 a

/-- A composition of calls, one after the other. -/
inductive Path (first : List Gr) : Gr → List Int → Prop
  | one {i : Nat} {g : Gr} : first[i]? = some g → Path first g [(i : Int)]
  | more {g h : Gr} {w : List Int} {i : Nat} : Path first g w → first[i]? = some h → g.dst = h.src → Path first (thenG g h) (w ++ [(i : Int)])
structure Inv (first : List Gr) (all : List Mk) : Prop where
  path : ∀ m ∈ all, Path first m.1 m.2
  diff : all.Pairwise fun a b => a.1 ≠ b.1
  len : all.length ≤ 2000
def Has (all : List Mk) (g : Gr) : Prop := ∃ m ∈ all, m.1 = g
theorem addM_some {first : List Gr} {all a : List Mk} {g : Gr} {w : List Int} (hI : Inv first all) (hg : Path first g w) (h : addM all g w = some a) : Inv first a ∧ Has a g ∧ all <+: a := by
  unfold addM at h
  split at h
  · rename_i hc
    cases h
    obtain ⟨m, hm, e⟩ := List.any_eq_true.1 hc
    exact ⟨hI, ⟨m, hm, of_decide_eq_true e⟩, List.prefix_refl _⟩
  · rename_i hc
    split at h
    · cases h
    · cases h
      refine ⟨⟨fun m hm => ?_, ?_, by simp; omega⟩, ⟨(g, w), by simp, rfl⟩, List.prefix_append _ _⟩
      · rcases List.mem_append.1 hm with hm | hm
        · exact hI.path m hm
        · rw [List.mem_singleton.1 hm]; exact hg
      · rw [List.pairwise_append]
        refine ⟨hI.diff, List.pairwise_singleton _ _, fun x hx y hy e => hc (List.any_eq_true.2 ⟨x, hx, decide_eq_true ?_⟩)⟩
        rw [List.mem_singleton.1 hy] at e
        exact e
theorem extL_some {first : List Gr} {m : Mk} (hm : Path first m.1 m.2) : ∀ (d i : Nat) (all a : List Mk), d + i = first.length → Inv first all → extL first m d i all = some a →
    Inv first a ∧ all <+: a ∧ ∀ j h, i ≤ j → first[j]? = some h → m.1.dst = h.src → Has a (thenG m.1 h)
  | 0, i, all, a, hd, hI, h => by
    cases h
    exact ⟨hI, List.prefix_refl _, fun j h hj hg => by
      have := (List.getElem?_eq_some_iff.1 hg).1
      omega⟩
  | d + 1, i, all, a, hd, hI, h => by
    have hi : i < first.length := by omega
    have e : first.getD i ⟨.empty, .empty, []⟩ = first[i] := by rw [List.getD_eq_getElem?_getD, List.getElem?_eq_getElem hi]; rfl
    have e2 : first[i]? = some first[i] := List.getElem?_eq_getElem hi
    simp only [extL] at h
    rw [e] at h
    split at h
    · rename_i hc
      obtain ⟨b, h1, h2⟩ := Option.bind_eq_some_iff.1 h
      obtain ⟨q1, q2, q3⟩ := addM_some hI (.more hm e2 hc) h1
      obtain ⟨r1, r2, r3⟩ := extL_some hm d (i + 1) b a (by omega) q1 h2
      refine ⟨r1, q3.trans r2, fun j g hj hg hs => ?_⟩
      by_cases ej : j = i
      · subst ej
        rw [e2] at hg
        cases hg
        obtain ⟨x, hx, hx2⟩ := q2
        exact ⟨x, r2.subset hx, hx2⟩
      · exact r3 j g (by omega) hg hs
    · rename_i hc
      obtain ⟨r1, r2, r3⟩ := extL_some hm d (i + 1) all a (by omega) hI h
      refine ⟨r1, r2, fun j g hj hg hs => ?_⟩
      by_cases ej : j = i
      · subst ej
        rw [e2] at hg
        cases hg
        exact (hc hs).elim
      · exact r3 j g (by omega) hg hs
theorem addL_some {first : List Gr} : ∀ (d i : Nat) (all a : List Mk), d + i = first.length → Inv first all → addL first d i all = some a → Inv first a ∧ all <+: a ∧ ∀ j h, i ≤ j → first[j]? = some h → Has a h
  | 0, i, all, a, hd, hI, h => by
    cases h
    exact ⟨hI, List.prefix_refl _, fun j h hj hg => by
      have := (List.getElem?_eq_some_iff.1 hg).1
      omega⟩
  | d + 1, i, all, a, hd, hI, h => by
    have hi : i < first.length := by omega
    have e : first.getD i ⟨.empty, .empty, []⟩ = first[i] := by rw [List.getD_eq_getElem?_getD, List.getElem?_eq_getElem hi]; rfl
    have e2 : first[i]? = some first[i] := List.getElem?_eq_getElem hi
    simp only [addL] at h
    rw [e] at h
    obtain ⟨b, h1, h2⟩ := Option.bind_eq_some_iff.1 h
    obtain ⟨q1, q2, q3⟩ := addM_some hI (.one e2) h1
    obtain ⟨r1, r2, r3⟩ := addL_some d (i + 1) b a (by omega) q1 h2
    refine ⟨r1, q3.trans r2, fun j g hj hg => ?_⟩
    by_cases ej : j = i
    · subst ej
      rw [e2] at hg
      cases hg
      obtain ⟨x, hx, hx2⟩ := q2
      exact ⟨x, r2.subset hx, hx2⟩
    · exact r3 j g (by omega) hg
theorem Has.mono {all a : List Mk} (h : all <+: a) {g : Gr} (hg : Has all g) : Has a g := let ⟨x, hx, e⟩ := hg; ⟨x, h.subset hx, e⟩
def Grown (first : List Gr) (all : List Mk) (p : Nat) : Prop := ∀ (q : Nat) (m : Mk) (j : Nat) (h : Gr), q < p → all[q]? = some m → first[j]? = some h → m.1.dst = h.src → Has all (thenG m.1 h)
theorem Grown.mono {first : List Gr} {all a : List Mk} {p : Nat} (h : Grown first all p) (hp : p ≤ all.length) (ha : all <+: a) : Grown first a p := fun q m j g hq hm hj hs => by
  refine (h q m j g hq ?_ hj hs).mono ha
  obtain ⟨t, rfl⟩ := ha
  rw [List.getElem?_append_left (by omega)] at hm
  exact hm
theorem runQ_some {first : List Gr} : ∀ (d p : Nat) (all a : List Mk), d + p = 2001 → p ≤ all.length → Inv first all → Grown first all p → runQ first d p all = some a → Inv first a ∧ all <+: a ∧ Grown first a a.length
  | 0, p, all, a, hd, hp, hI, hG, h => by
    have := hI.len
    omega
  | d + 1, p, all, a, hd, hp, hI, hG, h => by
    simp only [runQ] at h
    split at h
    · rename_i hlt
      have e : all.getD p (⟨.empty, .empty, []⟩, []) = all[p] := by rw [List.getD_eq_getElem?_getD, List.getElem?_eq_getElem hlt]; rfl
      rw [e] at h
      obtain ⟨b, h1, h2⟩ := Option.bind_eq_some_iff.1 h
      obtain ⟨q1, q2, q3⟩ := extL_some (hI.path _ (List.getElem_mem hlt)) first.length 0 all b (by omega) hI h1
      have hlen : all.length ≤ b.length := q2.length_le
      have hG2 : Grown first b (p + 1) := fun q m j g hq hm hj hs => by
        by_cases eq : q = p
        · subst eq
          obtain ⟨t, rfl⟩ := q2
          rw [List.getElem?_append_left hlt, List.getElem?_eq_getElem hlt] at hm
          cases hm
          exact q3 j g (Nat.zero_le _) hj hs
        · exact (hG.mono hp q2) q m j g (by omega) hm hj hs
      obtain ⟨r1, r2, r3⟩ := runQ_some d (p + 1) b a (by omega) (by omega) q1 hG2 h2
      exact ⟨r1, q2.trans r2, r3⟩
    · rename_i hlt
      cases h
      obtain rfl : p = all.length := by omega
      exact ⟨hI, List.prefix_refl _, hG⟩
/-- What the closure holds: each composition, once. -/
theorem closedQ_some {first : List Gr} {a : List Mk} (h : closedQ first = some a) : Inv first a ∧ ∀ g w, Path first g w → Has a g := by
  obtain ⟨b, h1, h2⟩ := Option.bind_eq_some_iff.1 h
  obtain ⟨q1, _, q3⟩ := addL_some first.length 0 [] b (by omega) ⟨fun m hm => (by cases hm), .nil, by simp⟩ h1
  obtain ⟨r1, r2, r3⟩ := runQ_some 2001 0 b a (by omega) (by omega) q1 (fun q m j h hq => (by omega)) h2
  refine ⟨r1, fun g w hp => ?_⟩
  induction hp with
  | one hg => exact (q3 _ _ (Nat.zero_le _) hg).mono r2
  | more _ hg hs ih =>
    obtain ⟨m, hm, rfl⟩ := ih
    obtain ⟨q, hq, hqe⟩ := List.getElem_of_mem hm
    exact r3 q m _ _ hq (by rw [List.getElem?_eq_getElem hq, hqe]) hg hs

/-! ### Compositions of compositions -/
def GTab (g : Gr) : Prop := Tab g.tab
theorem thenG_tab {g h : Gr} (hg : GTab g) (hh : GTab h) : GTab (thenG g h) := comp_tab hg hh
theorem path_tab {first : List Gr} (hf : ∀ g ∈ first, GTab g) {g : Gr} {w : List Int} (h : Path first g w) : GTab g := by
  induction h with
  | one hg => exact hf _ (List.mem_of_getElem? hg)
  | more _ hg _ ih => exact thenG_tab ih (hf _ (List.mem_of_getElem? hg))
theorem thenG_assoc {a b c : Gr} (ha : GTab a) (hb : GTab b) (hc : GTab c) : thenG (thenG a b) c = thenG a (thenG b c) := by
  unfold thenG
  rw [comp_assoc ha hb hc]
theorem path_join {first : List Gr} (hf : ∀ g ∈ first, GTab g) {g h : Gr} {w v : List Int} (hg : Path first g w) (hh : Path first h v) (hs : g.dst = h.src) : Path first (thenG g h) (w ++ v) := by
  induction hh with
  | one hi => exact .more hg hi hs
  | more h1 hi hs2 ih =>
    have := Path.more (ih hs) hi hs2
    rw [thenG_assoc (path_tab hf hg) (path_tab hf h1) (hf _ (List.mem_of_getElem? hi)), List.append_assoc] at this
    exact this
/-- A power. -/
def pw (g : Gr) : Nat → Gr
  | 0 => g
  | n + 1 => thenG (pw g n) g
theorem pw_ends (g : Gr) (hs : g.dst = g.src) : ∀ n, (pw g n).src = g.src ∧ (pw g n).dst = g.dst
  | 0 => ⟨rfl, rfl⟩
  | n + 1 => ⟨(pw_ends g hs n).1, rfl⟩
theorem pw_tab {g : Gr} (hg : GTab g) : ∀ n, GTab (pw g n)
  | 0 => hg
  | n + 1 => thenG_tab (pw_tab hg n) hg
theorem pw_path {first : List Gr} (hf : ∀ g ∈ first, GTab g) {g : Gr} {w : List Int} (hg : Path first g w) (hs : g.dst = g.src) : ∀ n, ∃ v, Path first (pw g n) v
  | 0 => ⟨w, hg⟩
  | n + 1 => let ⟨v, hv⟩ := pw_path hf hg hs n; ⟨v ++ w, path_join hf hv hg ((pw_ends g hs n).2.trans hs)⟩
theorem pw_add {g : Gr} (hg : GTab g) (a : Nat) : ∀ b, thenG (pw g a) (pw g b) = pw g (a + b + 1)
  | 0 => rfl
  | b + 1 => by
    show thenG (pw g a) (thenG (pw g b) g) = thenG (pw g (a + b + 1)) g
    rw [← thenG_assoc (pw_tab hg a) (pw_tab hg b) hg, pw_add hg a b]
/-- Of places below a bound two are the same. -/
theorem twice : ∀ (N : Nat) (f : Nat → Nat), (∀ i, i ≤ N → f i < N) → ∃ a b, a < b ∧ b ≤ N ∧ f a = f b
  | 0, f, h => absurd (h 0 (Nat.le_refl _)) (by omega)
  | N + 1, f, h => by
    by_cases hc : ∃ i, i ≤ N ∧ f i = f (N + 1)
    · obtain ⟨i, hi, e⟩ := hc
      exact ⟨i, N + 1, by omega, Nat.le_refl _, e⟩
    · have hne : ∀ i, i ≤ N → f i ≠ f (N + 1) := fun i hi e => hc ⟨i, hi, e⟩
      have hl := h (N + 1) (Nat.le_refl _)
      obtain ⟨a, b, hab, hb, e⟩ := twice N (fun i => if f i = N then f (N + 1) else f i) (fun i hi => by
        have h1 := h i (by omega)
        have h2 := hne i hi
        show (if f i = N then f (N + 1) else f i) < N
        split
        · rename_i e; rw [e] at h2; omega
        · omega)
      refine ⟨a, b, hab, by omega, ?_⟩
      have ha := hne a (by omega)
      have hb2 := hne b hb
      have e' : (if f a = N then f (N + 1) else f a) = (if f b = N then f (N + 1) else f b) := e
      split at e' <;> split at e' <;> omega
theorem pw_shift {g : Gr} {a p : Nat} (h : pw g a = pw g (a + p)) : ∀ n, a ≤ n → pw g n = pw g (n + p) := by
  intro n hn
  obtain ⟨d, rfl⟩ : ∃ d, n = a + d := ⟨n - a, by omega⟩
  clear hn
  induction d with
  | zero => exact h
  | succ d ih =>
    show thenG (pw g (a + d)) g = _
    rw [ih, show a + (d + 1) + p = (a + d + p) + 1 by omega]
    rfl
theorem pw_shifts {g : Gr} {a p : Nat} (h : pw g a = pw g (a + p)) (n : Nat) (hn : a ≤ n) : ∀ k, pw g n = pw g (n + k * p)
  | 0 => by rw [Nat.zero_mul]; rfl
  | k + 1 => by
    rw [pw_shifts h n hn k, pw_shift h (n + k * p) (by omega), Nat.succ_mul, Nat.add_assoc]
/-- Some power is itself when composed with itself. -/
theorem idem {g : Gr} (hg : GTab g) {L : List Gr} (hL : ∀ n, pw g n ∈ L) : ∃ n, thenG (pw g n) (pw g n) = pw g n := by
  have hex : ∀ n, ∃ i, i < L.length ∧ L[i]? = some (pw g n) := fun n => by
    obtain ⟨i, hi, e⟩ := List.getElem_of_mem (hL n)
    exact ⟨i, hi, by rw [List.getElem?_eq_getElem hi, e]⟩
  obtain ⟨a, b, hab, _, e⟩ := twice L.length (fun n => Classical.choose (hex n)) (fun n _ => (Classical.choose_spec (hex n)).1)
  have e2 : pw g a = pw g b := by
    have h1 := (Classical.choose_spec (hex a)).2
    have h2 := (Classical.choose_spec (hex b)).2
    have e' : Classical.choose (hex a) = Classical.choose (hex b) := e
    rw [e', h2] at h1
    exact (Option.some.inj h1).symm
  obtain ⟨p, rfl⟩ : ∃ p, b = a + p := ⟨b - a, by omega⟩
  -- the power number n stands for n + 1 factors: choose n + 1 a multiple of p, n at least a
  refine ⟨(a + 1) * p - 1, ?_⟩
  have hp : 0 < p := by omega
  have h3 : a + 1 ≤ (a + 1) * p := Nat.le_mul_of_pos_right _ hp
  rw [pw_add hg]
  have := pw_shifts e2 ((a + 1) * p - 1) (by omega) (a + 1)
  rw [show (a + 1) * p - 1 + ((a + 1) * p - 1) + 1 = (a + 1) * p - 1 + (a + 1) * p by omega]
  exact this.symm

/-! ### Bad graphs; greater graphs -/
def Bad (g : Gr) : Prop := g.src = g.dst ∧ thenG g g = g ∧ ∀ i, i < 6 → tat g.tab i i ≠ 2
def Le (t s : List Int) : Prop := ∀ i k, i < 6 → k < 6 → tat t i k ≤ tat s i k
theorem comp_le {T S T' S' : List Int} (hT : Tab T) (hS : Tab S) (hT' : Tab T') (hS' : Tab S') (h1 : Le T T') (h2 : Le S S') : Le (comp T S) (comp T' S') := by
  intro i k hi hk
  have a := comp_tab hT hS
  have b := comp_tab hT' hS'
  have a1 := a.lo i k
  have a2 := a.hi i k
  have b1 := b.lo i k
  have b2 := b.hi i k
  by_cases c : 0 < tat (comp T S) i k
  · obtain ⟨j, hj, h3, h4⟩ := (comp_pos hT hS hi hk).1 c
    have d1 := h1 i j hi hj
    have d2 := h2 j k hj hk
    have := (comp_pos hT' hS' hi hk).2 ⟨j, hj, by omega, by omega⟩
    by_cases e : tat (comp T S) i k = 2
    · obtain ⟨j, hj, h5, h6, h7⟩ := (comp_two hT hS hi hk).1 e
      have d1 := h1 i j hi hj
      have d2 := h2 j k hj hk
      have := hT'.hi i j
      have := hS'.hi j k
      have := (comp_two hT' hS' hi hk).2 ⟨j, hj, by omega, by omega, by omega⟩
      omega
    · omega
  · omega
theorem pw_le {g h : Gr} (hg : GTab g) (hh : GTab h) (hle : Le g.tab h.tab) : ∀ n, Le (pw g n).tab (pw h n).tab
  | 0 => hle
  | n + 1 => comp_le (pw_tab hg n) hg (pw_tab hh n) hh (pw_le hg hh hle n) hle
theorem pw_self {g : Gr} (h : thenG g g = g) : ∀ n, pw g n = g
  | 0 => rfl
  | n + 1 => by
    show thenG (pw g n) g = g
    rw [pw_self h n, h]
/-- The same calls with greater tables. -/
def Over (first more : List Gr) : Prop := first.length = more.length ∧ ∀ (i : Nat) (g h : Gr), first[i]? = some g → more[i]? = some h → g.src = h.src ∧ g.dst = h.dst ∧ Le g.tab h.tab
theorem path_over {first more : List Gr} (hf : ∀ g ∈ first, GTab g) (hm : ∀ g ∈ more, GTab g) (ho : Over first more) {h : Gr} {w : List Int} (hp : Path more h w) : ∃ g, Path first g w ∧ g.src = h.src ∧ g.dst = h.dst ∧ Le g.tab h.tab := by
  induction hp with
  | @one i h hi =>
    have hl := (List.getElem?_eq_some_iff.1 hi).1
    have e : first[i]? = some (first[i]'(by have := ho.1; omega)) := List.getElem?_eq_getElem _
    exact ⟨_, .one e, ho.2 _ _ _ e hi⟩
  | @more g h w i hpg hi hs ih =>
    obtain ⟨x, hx, e1, e2, hle⟩ := ih
    have hl := (List.getElem?_eq_some_iff.1 hi).1
    have e : first[i]? = some (first[i]'(by have := ho.1; omega)) := List.getElem?_eq_getElem _
    obtain ⟨f1, f2, f3⟩ := ho.2 _ _ _ e hi
    exact ⟨_, .more hx e (by rw [e2, hs, f1]), e1, f2, comp_le (path_tab hf hx) (hf _ (List.mem_of_getElem? e)) (path_tab hm hpg) (hm _ (List.mem_of_getElem? hi)) hle f3⟩
/-- With greater tables no composition becomes bad. -/
theorem over_good {first more : List Gr} (hf : ∀ g ∈ first, GTab g) (hm : ∀ g ∈ more, GTab g) (ho : Over first more) {a : List Mk} (hc : closedQ first = some a) (hgood : ∀ m ∈ a, ¬ Bad m.1) {h : Gr} {w : List Int} (hp : Path more h w) : ¬ Bad h := by
  rintro ⟨hs, hid, hno⟩
  obtain ⟨g, hg, e1, e2, hle⟩ := path_over hf hm ho hp
  have hsg : g.dst = g.src := by rw [e1, e2, hs]
  have htg := path_tab hf hg
  have hth := path_tab hm hp
  obtain ⟨hI, hall⟩ := closedQ_some hc
  have hin : ∀ n, pw g n ∈ a.map (·.1) := fun n => by
    obtain ⟨v, hv⟩ := pw_path hf hg hsg n
    obtain ⟨m, hm, e⟩ := hall _ _ hv
    exact List.mem_map.2 ⟨m, hm, e⟩
  obtain ⟨n, hn⟩ := idem htg hin
  obtain ⟨m, hma, e⟩ := List.mem_map.1 (hin n)
  have hb := hgood m hma
  rw [e] at hb
  have hends := pw_ends g hsg n
  have : ∃ i, i < 6 ∧ tat (pw g n).tab i i = 2 := Classical.byContradiction fun hne => hb ⟨by rw [hends.1, hends.2, hsg], hn, fun i hi e => hne ⟨i, hi, e⟩⟩
  obtain ⟨i, hi, h2⟩ := this
  have hl := pw_le htg hth hle n i i hi hi
  rw [pw_self hid n] at hl
  have := hth.hi i i
  exact hno i hi (by omega)
/-- Fewer calls have no further composition. -/
theorem path_fewer {first few : List Gr} (hs : ∀ g ∈ few, g ∈ first) {g : Gr} {w : List Int} (hp : Path few g w) : ∃ v, Path first g v := by
  induction hp with
  | one hi =>
    obtain ⟨j, hj, e⟩ := List.getElem_of_mem (hs _ (List.mem_of_getElem? hi))
    exact ⟨_, .one (i := j) (by rw [List.getElem?_eq_getElem hj, e])⟩
  | more _ hi hsd ih =>
    obtain ⟨v, hv⟩ := ih
    obtain ⟨j, hj, e⟩ := List.getElem_of_mem (hs _ (List.mem_of_getElem? hi))
    exact ⟨_, .more hv (i := j) (by rw [List.getElem?_eq_getElem hj, e]) hsd⟩
theorem fewer_good {first few : List Gr} (hs : ∀ g ∈ few, g ∈ first) {a b : List Mk} (hc : closedQ first = some a) (hgood : ∀ m ∈ a, ¬ Bad m.1) (hd : closedQ few = some b) : ∀ m ∈ b, ¬ Bad m.1 := fun m hm hb => by
  obtain ⟨hI, _⟩ := closedQ_some hd
  obtain ⟨v, hv⟩ := path_fewer hs (hI.path m hm)
  obtain ⟨x, hx, e⟩ := (closedQ_some hc).2 _ _ hv
  exact hgood x hx (e ▸ hb)
end Go.Proofs.Ytiepinfcndefhaa.S
