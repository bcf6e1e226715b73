/- Plain law: what follows from a system, by its solutions. -/
import Derived.Test.YtegejpcglabhbaaGNa
import Derived.Test.YtegejpcglabhbaaGHf
namespace Go.Proofs.Ytegejpcglabhbaa.G
open Go.RowKit Go.Proofs.YtegejpcglabhbaaW.PrintWords Go.Proofs.YtegejpcglabhbaaW.PrintLast Go.Proofs.YtegejpcglabhbaaW.PrintMore
set_option linter.unusedVariables false
set_option linter.unusedSimpArgs false

/-! ### differences that all solutions have -/
theorem Closed.walk_from {E : List S105} {s x : Nat} {is : Nat → Bool} {d : Nat → Int} (h : Closed E s is d) (hx : is x = true) {v : Nat} {c : Int} (hw : Walk E x v c) : is v = true ∧ d x + c ≤ d v := by
  induction hw with
  | nil => exact ⟨hx, by omega⟩
  | @snoc y t c a hw ha hy ht ih =>
    have h1 := h.arc a ha (by rw [hy, Int.toNat_natCast]; exact ih.1)
    rw [hy, ht, Int.toNat_natCast, Int.toNat_natCast] at h1
    exact ⟨h1.1, by have := ih.2; have := h1.2; omega⟩
/-- Raised numbers are a solution. -/
theorem raised_sol {n : Nat} {E : List S105} {s : Nat} {is : Nat → Bool} {d d0 : Nat → Int} (h : Closed E s is d) (h0 : Sol n E d0) (M : Int) (hn : is n = true → M + d n ≤ 0) : Sol n E (fun u => if is u = true then max (d0 u) (M + d u) else d0 u) := by
  refine ⟨?_, fun a ha => ?_⟩
  · show (if is n = true then max (d0 n) (M + d n) else d0 n) = 0
    have := h0.zero
    split
    · rename_i hk
      have := hn hk
      omega
    · omega
  · have h1 := h0.arc a ha
    show (if is a.f0.toNat = true then max (d0 a.f0.toNat) (M + d a.f0.toNat) else d0 a.f0.toNat) + a.f2 ≤ (if is a.f1.toNat = true then max (d0 a.f1.toNat) (M + d a.f1.toNat) else d0 a.f1.toNat)
    by_cases hk : is a.f0.toNat = true
    · have h2 := h.arc a ha hk
      rw [if_pos hk, if_pos h2.1]
      have := h2.2
      omega
    · rw [if_neg hk]
      split <;> omega
/-- What a search says of two nodes is true of all solutions, and nothing more is. -/
theorem ask_iff {n : Nat} {l : List S44} {which : List Int} {r : List Int} (hr : Least n (allArcs n l which) r) {s : Nat} {is : Nat → Bool} {d : Nat → Int} (h : Longest n (allArcs n l which) s is d) (hsn : s ≤ n) {t : Nat} (ht : t ≤ n) (w : Int) :
    (is t = true ∧ w ≤ d t) ↔ ∀ val, Sol n (allArcs n l which) val → val s + w ≤ val t := by
  constructor
  · rintro ⟨h1, h2⟩ val hv
    have := hv.walk (h.walk t ht h1)
    omega
  · intro hall
    by_cases hgood : is t = true ∧ w ≤ d t
    · exact hgood
    · exfalso
      have hs0 := h.zero
      have hss := h.closed.start
      by_cases hn : is n = true
      · -- the node 0 is reached
        have h1 := hall _ (raised_sol h.closed hr.sol (-(d n)) (fun _ => by omega))
        have h2 := hr.sol.walk (h.walk n (Nat.le_refl n) hn)
        have hz := hr.sol.zero
        have h3 := h.closed.walk_from hn (hr.long.walk t ht rfl)
        have h4 : r.getD s 0 + d n ≤ r.getD n 0 := h2
        have h5 : r.getD n 0 = 0 := hz
        have h6 : (if is s = true then max (r.getD s 0) (-(d n) + d s) else r.getD s 0) + w ≤ (if is t = true then max (r.getD t 0) (-(d n) + d t) else r.getD t 0) := h1
        rw [if_pos hss, if_pos h3.1] at h6
        have h7 : d n + r.getD t 0 ≤ d t := h3.2
        exact hgood ⟨h3.1, by omega⟩
      · have h1 := hall _ (raised_sol h.closed hr.sol (r.getD t 0 - w + 1) (fun hk => absurd hk hn))
        have h6 : (if is s = true then max (r.getD s 0) (r.getD t 0 - w + 1 + d s) else r.getD s 0) + w ≤ (if is t = true then max (r.getD t 0) (r.getD t 0 - w + 1 + d t) else r.getD t 0) := h1
        rw [if_pos hss] at h6
        by_cases hk : is t = true
        · rw [if_pos hk] at h6
          exact hgood ⟨hk, by omega⟩
        · rw [if_neg hk] at h6
          omega
/-- Numbers that suit arcs. -/
def Suits (val : Nat → Int) (L : List S105) : Prop := ∀ a ∈ L, val a.f0.toNat + a.f2 ≤ val a.f1.toNat
/-- A constraint holds in all solutions. -/
def Entails (n : Nat) (E : List S105) (c : S44) : Prop := ∀ val, Sol n E val → Suits val (arcsOf (n : Int) 0 c)
/-- What is asked of one arc. -/
theorem ask_prog {n : Nat} {l : List S44} (hs : SysOk n l) {which : List Int} (hw : Which l which) {r : List Int} (hr : Least n (allArcs n l which) r) {a : S105} (h0 : 0 ≤ a.f0 ∧ a.f0 ≤ n) (h1 : 0 ≤ a.f1 ∧ a.f1 ≤ n) :
    ∃ b, Ev (fun k => (far k n a.f0 (rowsOf (n + 1) (allArcs n l which))).bind (askOf a)) b ∧ (b = true ↔ ∀ val, Sol n (allArcs n l which) val → val a.f0.toNat + a.f2 ≤ val a.f1.toNat) := by
  obtain ⟨s, hs1⟩ := Int.eq_ofNat_of_zero_le h0.1
  obtain ⟨t, ht1⟩ := Int.eq_ofNat_of_zero_le h1.1
  have hsn : s ≤ n := by omega
  obtain ⟨R, hR, hP⟩ := search_spec hs hw hsn
  obtain ⟨st, rfl⟩ := far_sol hP hr.sol
  obtain ⟨hl, _, _, _⟩ := far_done hP hs.n1 (sys_arcs hs hw) hsn
  have hi := ask_iff hr hl hsn (t := t) (by omega) a.f2
  rw [hs1, ht1, Int.toNat_natCast, Int.toNat_natCast]
  refine ⟨kn st t && decide (a.f2 ≤ sm st t), Ev.bind hR ⟨0, fun k _ => ?_⟩, ?_⟩
  · show some (st.known.getD a.f1.toNat false && decide (a.f2 ≤ st.sum.getD a.f1.toNat 0)) = _
    rw [ht1, Int.toNat_natCast]
    rfl
  · rw [← hi, Bool.and_eq_true, decide_eq_true_eq]
theorem ask_all {n : Nat} {l : List S44} (hs : SysOk n l) {which : List Int} (hw : Which l which) {r : List Int} (hr : Least n (allArcs n l which) r) : ∀ (L : List S105), (∀ a ∈ L, 0 ≤ a.f0 ∧ a.f0 ≤ n ∧ 0 ≤ a.f1 ∧ a.f1 ≤ n) →
    ∃ b, Ev (fun k => askL k n (rowsOf (n + 1) (allArcs n l which)) L) b ∧ (b = true ↔ ∀ val, Sol n (allArcs n l which) val → Suits val L) := by
  intro L
  induction L with
  | nil => intro _; exact ⟨true, Ev.now _, ⟨fun _ _ _ a ha => (by cases ha), fun _ => rfl⟩⟩
  | cons a L ih =>
    intro h
    have ha := h a List.mem_cons_self
    obtain ⟨b1, h1, h2⟩ := ask_prog hs hw hr (a := a) ⟨ha.1, ha.2.1⟩ ⟨ha.2.2.1, ha.2.2.2⟩
    obtain ⟨b2, h3, h4⟩ := ih (fun b hb => h b (List.mem_cons_of_mem _ hb))
    refine ⟨b1 && b2, Ev.bind h1 ?_, ?_⟩
    · cases b1 with
      | true => exact Ev.pos rfl h3
      | false => exact Ev.neg (by decide) (Ev.now _)
    · rw [Bool.and_eq_true, h2, h4]
      exact ⟨fun ⟨p, q⟩ val hv b hb => by
        rcases List.mem_cons.1 hb with rfl | hb
        · exact p val hv
        · exact q val hv b hb, fun p => ⟨fun val hv => p val hv a List.mem_cons_self, fun val hv b hb => p val hv b (List.mem_cons_of_mem _ hb)⟩⟩
theorem arcs_in {n : Nat} {c : S44} (h : FitOk n c) : ∀ a ∈ arcsOf (n : Int) 0 c, 0 ≤ a.f0 ∧ a.f0 ≤ n ∧ 0 ≤ a.f1 ∧ a.f1 ≤ n := fun a ha => by
  have := arcs_mem h (Int.natCast_nonneg n) ha
  omega
/-- follows, where there is a solution. -/
theorem follows_ev {n : Nat} {l : List S44} (hs : SysOk n l) {which : List Int} (hw : Which l which) {r : List Int} (hr : Least n (allArcs n l which) r) {c : S44} (hc : FitOk n c) :
    ∃ b, Ev (fun k => followsN k n l which c) b ∧ (b = true ↔ Entails n (allArcs n l which) c) := ask_all hs hw hr _ (arcs_in hc)
/-! ### solutions, constraint by constraint -/
theorem suits_by {n i j : Int} {c : S44} {val : Nat → Int} : Suits val (arcsOf n i c) → Suits val (arcsOf n j c) := by
  intro h a ha
  unfold arcsOf at ha h
  rcases List.mem_cons.1 ha with rfl | ha
  · exact h ⟨n, (bndOf n c.f1).1, c.f0.f0 - (bndOf n c.f1).2, i⟩ List.mem_cons_self
  · obtain ⟨v, hv, rfl⟩ := List.mem_map.1 ha
    exact h ⟨v.f0, (bndOf n c.f1).1, v.f1 - (bndOf n c.f1).2, i⟩ (List.mem_cons_of_mem _ (List.mem_map.2 ⟨v, hv, rfl⟩))
theorem sol_which {n : Nat} {l : List S44} {which : List Int} {val : Nat → Int} : Sol n (allArcs n l which) val ↔ val n = 0 ∧ (∀ v, v < n → 0 ≤ val v) ∧ ∀ x ∈ which, Suits val (arcsOf (n : Int) 0 (rd_T44 l x)) := by
  constructor
  · intro h
    refine ⟨h.zero, fun v hv => ?_, fun x hx => suits_by (i := x) fun a ha => h.arc a (List.mem_append_right _ (List.mem_flatMap.2 ⟨x, hx, ha⟩))⟩
    have := h.arc _ (nat_mem hv l which)
    simp only [natArc, Int.toNat_natCast] at this
    rw [h.zero] at this
    omega
  · rintro ⟨h0, h1, h2⟩
    refine ⟨h0, fun a ha => ?_⟩
    rcases List.mem_append.1 ha with ha | ha
    · obtain ⟨v, hv, rfl⟩ := List.mem_map.1 ha
      simp only [natArc, Int.toNat_natCast]
      rw [h0]
      have := h1 v (List.mem_range.1 hv)
      omega
    · obtain ⟨x, hx, ha⟩ := List.mem_flatMap.1 ha
      exact suits_by (i := 0) (h2 x hx) a ha
theorem sol_sys {n : Nat} {l : List S44} {val : Nat → Int} : Sol n (sysArcs n l) val ↔ val n = 0 ∧ (∀ v, v < n → 0 ≤ val v) ∧ ∀ c ∈ l, Suits val (arcsOf (n : Int) 0 c) := by
  unfold sysArcs
  rw [sol_which]
  constructor
  · rintro ⟨h0, h1, h2⟩
    refine ⟨h0, h1, fun c hc => ?_⟩
    obtain ⟨i, hi, rfl⟩ := List.mem_iff_getElem.1 hc
    have := h2 (i : Int) (List.mem_map.2 ⟨i, List.mem_range.2 hi, rfl⟩)
    rwa [rd44 l i hi] at this
  · rintro ⟨h0, h1, h2⟩
    refine ⟨h0, h1, fun x hx => ?_⟩
    obtain ⟨i, hi, rfl⟩ := List.mem_map.1 hx
    have hi2 := List.mem_range.1 hi
    show Suits val (arcsOf (n : Int) 0 (rd_T44 l (i : Int)))
    rw [rd44 l i hi2]
    exact h2 _ (List.getElem_mem hi2)
/-- Constraints out of a list, by their numbers. -/
def someOf (l : List S44) (which : List Int) : List S44 := which.map (rd_T44 l)
theorem sol_some {n : Nat} {l : List S44} {which : List Int} {val : Nat → Int} : Sol n (sysArcs n (someOf l which)) val ↔ Sol n (allArcs n l which) val := by
  rw [sol_sys, sol_which]
  simp only [someOf, List.mem_map, forall_exists_index, and_imp, forall_apply_eq_imp_iff₂]
theorem some_ok {n : Nat} {l : List S44} (hs : SysOk n l) {which : List Int} (hw : Which l which) (hw3 : which.length ≤ 3000) : SysOk n (someOf l which) :=
  ⟨hs.n1, by unfold someOf; rw [List.length_map]; exact hw3, fun c hc => by
    obtain ⟨x, hx, rfl⟩ := List.mem_map.1 hc
    exact hs.fit _ (mem_rd44 (hw x hx).1 (hw x hx).2)⟩
theorem least_sub {n : Nat} {l : List S44} (hs : SysOk n l) {which : List Int} (hw : Which l which) {val : Nat → Int} (hv : Sol n (allArcs n l which) val) : ∃ r, Least n (allArcs n l which) r := by
  obtain ⟨R, _, hP⟩ := search_spec hs hw (Nat.le_refl n)
  obtain ⟨st, rfl⟩ := far_sol hP hv
  exact ⟨_, least_of hs hw hP⟩
theorem sol_less {n : Nat} {l : List S44} {w1 w2 : List Int} {val : Nat → Int} (h : Sol n (allArcs n l w2) val) (hs : ∀ x ∈ w1, x ∈ w2) : Sol n (allArcs n l w1) val := by
  rw [sol_which] at h ⊢
  exact ⟨h.1, h.2.1, fun x hx => h.2.2 x (hs x hx)⟩
/-- What Follows tells. -/
theorem Follows_ev (n : Int) (l : List S44) (c : S44) : (∃ m : Nat, n = m ∧ SysOk m l ∧ validB n l = true ∧ FitOk m c ∧ fitsB n c = true ∧ l.length ≠ 3000 ∧ ∃ b, Ev (fun k => graph_Follows.f k n l c.f0.f0 c.f0.f1 c.f1.f0 c.f1.f1) (b, 0) ∧ (b = true ↔ Entails m (sysArcs m l) c)) ∨
    ((validB n l = false ∨ fitsB n c = false ∨ l.length = 3000) ∧ Ev (fun k => graph_Follows.f k n l c.f0.f0 c.f0.f1 c.f1.f0 c.f1.f1) (false, 4)) := by
  have hg : ∀ k, graph_Follows.f k n l c.f0.f0 c.f0.f1 c.f1.f0 c.f1.f1 = if validB n l = true then if fitsB n c = true then if l.length = 3000 then some (false, 4) else followsS k n.toNat l c else some (false, 4) else some (false, 4) := fun _ => rfl
  cases hv : validB n l with
  | false => exact .inr ⟨.inl rfl, Ev.congr hg (Ev.neg (by rw [hv]; decide) (Ev.now _))⟩
  | true =>
    obtain ⟨m, rfl, hs⟩ := valid_ok hv
    cases hf : fitsB (m : Int) c with
    | false => exact .inr ⟨.inr (.inl rfl), Ev.congr hg (Ev.pos hv (Ev.neg (by rw [hf]; decide) (Ev.now _)))⟩
    | true =>
      by_cases h3 : l.length = 3000
      · exact .inr ⟨.inr (.inr h3), Ev.congr hg (Ev.pos hv (Ev.pos hf (Ev.pos h3 (Ev.now _))))⟩
      · left
        refine ⟨m, rfl, hs, rfl, fit_ok hf, rfl, h3, ?_⟩
        have hg2 : ∀ b, Ev (fun k => followsS k m l c) b → Ev (fun k => graph_Follows.f k (m : Int) l c.f0.f0 c.f0.f1 c.f1.f0 c.f1.f1) b := fun b h => Ev.congr hg (Ev.pos hv (Ev.pos hf (Ev.neg h3 (by rw [Int.toNat_natCast]; exact h))))
        rcases prog_cases hs with ⟨r, hr, h1⟩ | ⟨hno, h1⟩
        · obtain ⟨b, h4, h5⟩ := follows_ev hs (which_upTo l) hr (fit_ok hf)
          obtain ⟨K, hK⟩ := h4
          exact ⟨b, hg2 _ (Ev.bind h1 (Ev.pos rfl ⟨K, fun k hk => by
            show (followsN k m l (upTo l.length) c).map (fun b => (b, (0 : Int))) = _
            rw [show followsN k m l (upTo l.length) c = some b from hK k hk]
            rfl⟩)), h5⟩
        · exact ⟨true, hg2 _ (Ev.bind h1 (Ev.neg (by decide) (Ev.now _))), ⟨fun _ val hv => (hno ⟨val, hv⟩).elim, fun _ => rfl⟩⟩
/-- A constraint between two variables. -/
def cAt (v p u q : Int) : S44 := ⟨⟨0, [⟨v, p⟩]⟩, ⟨0, [⟨u, q⟩]⟩⟩
theorem lvl_one {v p : Int} (h0 : 0 ≤ v) (h1 : v < 1200) (h2 : 0 ≤ p) (h3 : p ≤ 1000) : lvl 0 [⟨v, p⟩] = true := by
  unfold lvl
  rw [if_neg (by omega), if_neg (by omega), if_neg (by simp)]
  simp only [List.length_singleton, lvlVars]
  have e : rd_T96 [(⟨v, p⟩ : S96)] ((0 : Nat) : Int) = ⟨v, p⟩ := rfl
  rw [e]
  show (if v < 0 then false else if 1200 ≤ v then false else if p < 0 then false else if 1000 < p then false else if 0 ≤ idxB (fun x : S96 => x.f0 == v) [] 0 then false else true) = true
  rw [if_neg (by omega), if_neg (by omega), if_neg (by omega), if_neg (by omega), if_neg (show ¬ (0 : Int) ≤ idxB (fun x : S96 => x.f0 == v) [] 0 from by show ¬ (0 : Int) ≤ -1; decide)]
theorem fits_cAt {n v p u q : Int} (h0 : 0 ≤ v) (h1 : v < 1200) (h2 : 0 ≤ p) (h3 : p ≤ 1000) (k0 : 0 ≤ u) (k1 : u < 1200) (k2 : 0 ≤ q) (k3 : q ≤ 1000) (hv : v < n) (hu : u < n) : fitsB n (cAt v p u q) = true := by
  unfold fitsB cAt
  rw [lvl_one h0 h1 h2 h3, lvl_one k0 k1 k2 k3]
  simp [belowB, hv, hu]
theorem suits_cAt {n : Nat} {val : Nat → Int} {v p u q : Int} (_h0 : 0 ≤ v) (_k0 : 0 ≤ u) : Suits val (arcsOf (n : Int) 0 (cAt v p u q)) ↔ val (n : Int).toNat + (0 - q) ≤ val u.toNat ∧ val v.toNat + (p - q) ≤ val u.toNat := by
  have hm : arcsOf (n : Int) 0 (cAt v p u q) = [⟨n, u, 0 - q, 0⟩, ⟨v, u, p - q, 0⟩] := rfl
  rw [hm]
  unfold Suits
  simp
end Go.Proofs.Ytegejpcglabhbaa.G
