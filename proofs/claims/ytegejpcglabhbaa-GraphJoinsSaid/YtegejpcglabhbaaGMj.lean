/- Plain law: Extend is Solve of both, in either order, and in any numbering. -/
import Derived.Test.YtegejpcglabhbaaGMt
import Derived.Test.YtegejpcglabhbaaGNx
namespace Go.Proofs.Ytegejpcglabhbaa.G
open Go.RowKit Go.Proofs.YtegejpcglabhbaaW.PrintWords Go.Proofs.YtegejpcglabhbaaW.PrintLast Go.Proofs.YtegejpcglabhbaaW.PrintMore
set_option linter.unusedVariables false
set_option linter.unusedSimpArgs false

theorem valid_of {n : Nat} {l : List S44} (hn : n ≤ 1200) (hl : l.length ≤ 3000) (h : ∀ c ∈ l, fitsB (n : Int) c = true) : validB (n : Int) l = true := by
  unfold validB
  rw [decide_eq_true (by omega), decide_eq_true (by omega), decide_eq_true hl, Bool.true_and, Bool.true_and, Bool.true_and, List.all_eq_true]
  exact h
theorem valid_fits {n : Int} {l : List S44} (h : validB n l = true) : ∀ c ∈ l, fitsB n c = true := by
  simp only [validB, Bool.and_eq_true, decide_eq_true_eq, List.all_eq_true] at h
  exact h.2.2.2
theorem ev_eqi (l : List Int) (h : l.length ≤ 1000000) : Ev (fun k => tenetref00_EqInts.f k l l) true := ⟨l.length + 1, fun k hk => eqints_eq l h k hk⟩
theorem sol_swap {n : Nat} {l m : List S44} {val : Nat → Int} : Sol n (sysArcs n (l ++ m)) val ↔ Sol n (sysArcs n (m ++ l)) val := by
  rw [sol_sys, sol_sys]
  refine and_congr Iff.rfl (and_congr Iff.rfl ⟨fun h c hc => h c ?_, fun h c hc => h c ?_⟩)
  · rcases List.mem_append.1 hc with h1 | h1
    · exact List.mem_append_right _ h1
    · exact List.mem_append_left _ h1
  · rcases List.mem_append.1 hc with h1 | h1
    · exact List.mem_append_right _ h1
    · exact List.mem_append_left _ h1
/-- What the law asks. -/
theorem joins_facts (n : Int) (l more : List S44) (hl : l.length ≤ 120) (hm : more.length ≤ 120) (hv : validB n l = true) (hv3 : validB n more = true) :
    (∃ s e, e ≠ 0 ∧ Ev (fun k => graph_Solve.f k n l) (s, e)) ∨
    ∃ (m : Nat) (s b d : List Int) (g : Int) (t : List S44), n = m ∧ m ≤ 1200 ∧ b.length ≤ 1200 ∧ Ev (fun k => graph_Solve.f k n l) (s, 0) ∧ Ev (fun k => graph_Extend.f k n l s more) (b, g) ∧
      Ev (fun k => graph_Solve.f k n (l ++ more)) (b, g) ∧ Ev (fun k => graph_Solve.f k n (more ++ l)) (b, g) ∧ Ev (fun k => tenetlaw02_turned.f k n (l ++ more)) t ∧ Ev (fun k => graph_Solve.f k n t) (d, g) ∧
      ((g = 0 ∧ d.length = m ∧ b.length = m ∧ ∀ v, v < m → d.getD v 0 = b.getD (m - 1 - v) 0) ∨ g ≠ 0) := by
  have hf1 := valid_fits hv
  have hf3 := valid_fits hv3
  obtain ⟨m, rfl, hs⟩ := valid_ok hv
  obtain ⟨m2, hm2, hs3⟩ := valid_ok hv3
  obtain rfl : m = m2 := by omega
  have hfit : ∀ c ∈ l ++ more, fitsB (m : Int) c = true := fun c hc => by
    rcases List.mem_append.1 hc with h | h
    · exact hf1 c h
    · exact hf3 c h
  have hlen : (l ++ more).length ≤ 3000 := by rw [List.length_append]; omega
  have hvb : validB (m : Int) (l ++ more) = true := valid_of hs.n1 hlen hfit
  have hvs : validB (m : Int) (more ++ l) = true := valid_of hs.n1 (by rw [List.length_append]; omega) fun c hc => by
    rcases List.mem_append.1 hc with h | h
    · exact hf3 c h
    · exact hf1 c h
  have hvt : validB (m : Int) ((l ++ more).map (turnC m)) = true := valid_of hs.n1 (by rw [List.length_map]; exact hlen) fun c hc => by
    obtain ⟨c2, hc2, rfl⟩ := List.mem_map.1 hc
    exact fits_turn hs.n1 (hfit c2 hc2)
  have ok : ∀ {L : List S44}, validB (m : Int) L = true → SysOk m L := fun h => by
    obtain ⟨m3, hm3, h2⟩ := valid_ok h
    obtain rfl : m = m3 := by omega
    exact h2
  have hsb := ok hvb
  have hss := ok hvs
  have hst := ok hvt
  rcases prog_cases hs with ⟨s, hsl, h1⟩ | ⟨hno, h1⟩
  · have hext : ∀ r, Ev (fun k => extS k m l s more) r → Ev (fun k => graph_Extend.f k (m : Int) l s more) r := fun r h =>
      Ev.congr (fun k => by
        show graph_Extend.f k (m : Int) l s more = if validB (m : Int) l = true then if validB (m : Int) more = true then if 3000 < l.length + more.length then some ([], 4) else extS k (m : Int).toNat l s more else some ([], 4) else some ([], 4)
        rfl) (Ev.pos hv (Ev.pos hv3 (Ev.neg (by omega) (by rw [Int.toNat_natCast]; exact h))))
    rcases extS_ev hs hs3 (by omega) hsl h1 with ⟨b, hb, h2⟩ | ⟨hno, h2⟩
    · obtain ⟨b2, hb2, h3⟩ := prog_sol hsb hb.sol
      obtain rfl := hb.unique hb2 hb.sol hb2.sol
      obtain ⟨b3, hb3, h4⟩ := prog_sol hss (sol_swap.1 hb.sol)
      obtain rfl := hb.unique hb3 (sol_swap.1 hb.sol) (sol_swap.2 hb3.sol)
      obtain ⟨d, hd, h5⟩ := prog_sol hst ((sol_turn (val := fun v => b.getD (rev m v) 0) hsb).2 (by simp only [rev_rev]; exact hb.sol))
      refine .inr ⟨m, s, b, d, 0, _, rfl, hs.n1, by rw [hb.len]; exact hs.n1, Solve_ev hv h1, hext _ h2, Solve_ev hvb h3, Solve_ev hvs h4, turned_ev hsb, Solve_ev hvt h5, .inl ⟨rfl, hd.len, hb.len, fun v hv => ?_⟩⟩
      have := least_turn hsb hb hd (Nat.le_of_lt hv)
      rw [this, rev, if_pos hv]
    · have hno2 : ∀ {L : List S44}, (h : SysOk m L) → (∀ val, Sol m (sysArcs m L) val → ∃ val, Sol m (sysArcs m (l ++ more)) val) → Ev (fun k => solvedN k m L) ([], 20) := fun h h9 => by
        rcases prog_cases h with ⟨r, hr, _⟩ | ⟨_, h10⟩
        · exact (hno (h9 _ hr.sol)).elim
        · exact h10
      exact .inr ⟨m, s, [], [], 20, _, rfl, hs.n1, by simp, Solve_ev hv h1, hext _ h2, Solve_ev hvb (hno2 hsb fun v hv => ⟨v, hv⟩), Solve_ev hvs (hno2 hss fun v hv => ⟨v, sol_swap.1 hv⟩), turned_ev hsb, Solve_ev hvt (hno2 hst fun v hv => ⟨_, (sol_turn hsb).1 hv⟩), .inr (by decide)⟩
  · exact .inl ⟨[], 20, by decide, Solve_ev hv h1⟩
end Go.Proofs.Ytegejpcglabhbaa.G
