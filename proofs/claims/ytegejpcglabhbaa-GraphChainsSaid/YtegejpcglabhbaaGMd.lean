/- Plain law: GraphChains answers true. -/
import Derived.Test.YtegejpcglabhbaaGNc
import Derived.Test.YtegejpcglabhbaaGf9
namespace Go.Proofs.Ytegejpcglabhbaa.G
open Go.RowKit Go.Proofs.YtegejpcglabhbaaW.PrintWords Go.Proofs.YtegejpcglabhbaaW.PrintLast Go.Proofs.YtegejpcglabhbaaW.PrintMore
set_option linter.unusedVariables false
set_option linter.unusedSimpArgs false

theorem ev_eqi (l : List Int) (h : l.length ≤ 1000000) : Ev (fun k => tenetref00_EqInts.f k l l) true := ⟨l.length + 1, fun k hk => eqints_eq l h k hk⟩
/-- The step that is taken at a place. -/
def dAt (steps : List Int) (i : Nat) : Int := if i < steps.length ∧ 0 ≤ steps.getD i 0 ∧ steps.getD i 0 ≤ 1000 then steps.getD i 0 else 0
theorem dAt_in (steps : List Int) (i : Nat) : 0 ≤ dAt steps i ∧ dAt steps i ≤ 1000 := by unfold dAt; split <;> omega
def pre (steps : List Int) : Nat → Int
  | 0 => 0
  | i + 1 => pre steps i + dAt steps i
theorem pre_in (steps : List Int) : ∀ i, 0 ≤ pre steps i ∧ pre steps i ≤ 1000 * (i : Int)
  | 0 => ⟨Int.le_refl _, Int.le_refl _⟩
  | i + 1 => by
    have := pre_in steps i
    have := dAt_in steps i
    simp only [pre]
    omega
theorem pre_mono (steps : List Int) (a : Nat) : ∀ b, pre steps a ≤ pre steps (a + b)
  | 0 => Int.le_refl _
  | b + 1 => by
    have := pre_mono steps a b
    have := dAt_in steps (a + b)
    show pre steps a ≤ pre steps (a + b) + dAt steps (a + b)
    omega
def link (steps : List Int) (i : Nat) : S44 := cAt i (dAt steps i) ((i + 1 : Nat) : Int) 0
def chain (steps : List Int) (m : Nat) : List S44 := (List.range m).map (link steps)
theorem chain_length (steps : List Int) (m : Nat) : (chain steps m).length = m := by simp [chain]
def sumsTo (steps : List Int) (n i : Nat) : List Int := (List.range (i + 1)).map (pre steps) ++ List.replicate (n - (i + 1)) 0
theorem sumsTo_length (steps : List Int) {n i : Nat} (h : i < n) : (sumsTo steps n i).length = n := by simp [sumsTo]; omega
theorem sumsTo_get (steps : List Int) {n i j : Nat} (h : j ≤ i) : (sumsTo steps n i).getD j 0 = pre steps j := by
  unfold sumsTo
  rw [List.getD_eq_getElem?_getD, List.getElem?_append_left (by simp; omega), List.getElem?_map, List.getElem?_range (by omega)]
  rfl
theorem sumsTo_set (steps : List Int) {n i : Nat} (h : i + 1 < n) : (sumsTo steps n i).set (i + 1) (pre steps (i + 1)) = sumsTo steps n (i + 1) := by
  unfold sumsTo
  rw [List.set_append_right _ _ (by simp), show n - (i + 1) = (n - (i + 1 + 1)) + 1 by omega, List.replicate_succ]
  simp only [List.length_map, List.length_range, Nat.sub_self, List.set_cons_zero]
  rw [List.range_succ (n := i + 1), List.map_append, List.append_assoc]
  rfl
theorem chain_valid (steps : List Int) {n : Nat} (h2 : 2 ≤ n) (hn : n ≤ 1200) : validB (n : Int) (chain steps (n - 1)) = true := by
  unfold validB
  rw [decide_eq_true (by omega), decide_eq_true (by omega), decide_eq_true (by rw [chain_length]; omega), Bool.true_and, Bool.true_and, Bool.true_and, List.all_eq_true]
  intro c hc
  obtain ⟨i, hi, rfl⟩ := List.mem_map.1 hc
  have := List.mem_range.1 hi
  have := dAt_in steps i
  exact fits_cAt (by omega) (by omega) (by omega) (by omega) (by omega) (by omega) (by omega) (by omega) (by omega) (by omega)
theorem chain_sol (steps : List Int) {n : Nat} (h2 : 2 ≤ n) : Sol n (sysArcs n (chain steps (n - 1))) (fun v => if v < n then pre steps v else 0) := by
  rw [sol_sys]
  refine ⟨by simp, fun v hv => ?_, fun c hc => ?_⟩
  · show 0 ≤ if v < n then pre steps v else 0
    rw [if_pos hv]
    exact (pre_in steps v).1
  · obtain ⟨i, hi, rfl⟩ := List.mem_map.1 hc
    have hi2 := List.mem_range.1 hi
    refine (suits_cAt (n := n) (by omega) (by omega)).2 ?_
    simp only [Int.toNat_natCast, Nat.lt_irrefl, if_false]
    rw [if_pos (by omega), if_pos (by omega)]
    have := pre_in steps (i + 1)
    simp only [pre] at this ⊢
    omega
theorem chain_low (steps : List Int) {n : Nat} {val : Nat → Int} (h : Sol n (sysArcs n (chain steps (n - 1))) val) (a : Nat) : ∀ b, a + b < n → val a + (pre steps (a + b) - pre steps a) ≤ val (a + b)
  | 0, _ => by show val a + (pre steps a - pre steps a) ≤ val a; omega
  | b + 1, hb => by
    have h1 := chain_low steps h a b (by omega)
    have h2 := (sol_sys.1 h).2.2 (link steps (a + b)) (List.mem_map.2 ⟨a + b, List.mem_range.2 (by omega), rfl⟩)
    have h3 := ((suits_cAt (n := n) (by omega) (by omega)).1 h2).2
    simp only [Int.toNat_natCast] at h3
    show val a + (pre steps (a + b) + dAt steps (a + b) - pre steps a) ≤ val (a + b + 1)
    omega
theorem chain_solves (steps : List Int) {n : Nat} (h2 : 2 ≤ n) (hn : n ≤ 1200) : Ev (fun k => graph_Solve.f k (n : Int) (chain steps (n - 1))) (sumsTo steps n (n - 1), 0) := by
  have hv := chain_valid steps h2 hn
  obtain ⟨m, hm, hs⟩ := valid_ok hv
  obtain rfl : n = m := by omega
  obtain ⟨r, hr, h1⟩ := prog_sol hs (chain_sol steps h2)
  have e : r = sumsTo steps n (n - 1) := by
    apply List.ext_getElem (by rw [hr.len, sumsTo_length steps (by omega)])
    intro i hi hi2
    have hin : i < n := by rw [← hr.len]; exact hi
    have a := hr.le (chain_sol steps h2) i (by omega)
    have b := chain_low steps hr.sol 0 i (by omega)
    have c := hr.low 0
    have e1 : r.getD i 0 = r[i] := by rw [List.getD_eq_getElem?_getD, List.getElem?_eq_getElem hi]; rfl
    have e2 := sumsTo_get steps (n := n) (i := n - 1) (j := i) (by omega)
    rw [List.getD_eq_getElem?_getD, List.getElem?_eq_getElem hi2] at e2
    have e3 : (sumsTo steps n (n - 1))[i] = pre steps i := e2
    rw [e3]
    simp only [if_pos hin] at a
    rw [e1] at a
    simp only [Nat.zero_add] at b
    rw [e1] at b
    have e4 : pre steps 0 = 0 := rfl
    omega
  rw [← e]
  exact Solve_ev hv h1
theorem chain_follows (steps : List Int) {n : Nat} (h2 : 2 ≤ n) (hn : n ≤ 1200) {a b : Nat} (hab : a < b) (hb : b < n) {d : Int} (hd0 : 0 ≤ d) (hd : d ≤ 1000) :
    Ev (fun k => graph_Follows.f k (n : Int) (chain steps (n - 1)) 0 [⟨(a : Int), d⟩] 0 [⟨(b : Int), 0⟩]) (decide (d ≤ pre steps b - pre steps a), 0) := by
  have hv := chain_valid steps h2 hn
  have hf : fitsB (n : Int) (cAt (a : Int) d (b : Int) 0) = true := fits_cAt (by omega) (by omega) (by omega) (by omega) (by omega) (by omega) (by omega) (by omega) (by omega) (by omega)
  rcases Follows_ev (n : Int) (chain steps (n - 1)) (cAt (a : Int) d (b : Int) 0) with ⟨m, hm, hs, _, _, _, _, q, h3, h4⟩ | ⟨h, _⟩
  · obtain rfl : n = m := by omega
    have e : q = decide (d ≤ pre steps b - pre steps a) := by
      rw [Bool.eq_iff_iff, h4, decide_eq_true_eq]
      constructor
      · intro h
        have := ((suits_cAt (n := n) (by omega) (by omega)).1 (h _ (chain_sol steps h2))).2
        simp only [Int.toNat_natCast] at this
        rw [if_pos (by omega), if_pos (by omega)] at this
        omega
      · intro h val hval
        have h5 := chain_low steps hval a (b - a) (by omega)
        rw [show a + (b - a) = b by omega] at h5
        have h6 := (sol_sys.1 hval).2.1 b hb
        have h7 := hval.zero
        refine (suits_cAt (n := n) (by omega) (by omega)).2 ?_
        simp only [Int.toNat_natCast]
        omega
    rw [← e]
    exact h3
  · rcases h with h | h | h
    · rw [hv] at h; cases h
    · rw [hf] at h; cases h
    · rw [chain_length] at h; omega
theorem rd_get {l : List Int} {i : Nat} : rd l (i : Int) = l.getD i 0 := by simp [rd]
theorem chains_l0 (steps : List Int) {n : Nat} (h2 : 2 ≤ n) (hn : n ≤ 1200) (hl : steps.length ≤ 2000) (a b : Int) {r : Bool}
    (hc : Ev (fun k => (graph_Solve.f k (n : Int) (chain steps (n - 1))).bind fun bt => if bt.2 = 0 then (tenetref00_EqInts.f k bt.1 (sumsTo steps n (n - 1))).bind fun t => tenetlaw02_GraphChains.j3 k (n : Int) (chain steps (n - 1)) (sumsTo steps n (n - 1)) (!t) a b else tenetlaw02_GraphChains.j3 k (n : Int) (chain steps (n - 1)) (sumsTo steps n (n - 1)) true a b) r) :
    ∀ (d i : Nat), d + i + 1 = n → Ev (fun k => tenetlaw02_GraphChains.l0 k (n : Int) steps (chain steps i) (sumsTo steps n i) (i : Int) a b) r := by
  intro d
  induction d with
  | zero =>
    intro i hd
    refine Ev.step (fun k => tenetlaw02_GraphChains.l0.eq_2 ..) (Ev.neg (by rw [w64n _ (by omega)]; omega) ?_)
    rw [show i = n - 1 by omega]
    exact hc
  | succ d ih =>
    intro i hd
    have hnext := ih (i + 1) (by omega)
    have hlen := sumsTo_length steps (n := n) (i := i) (by omega)
    have hp := pre_in steps i
    have hdd := dAt_in steps i
    have hch : chain steps (i + 1) = chain steps i ++ [cAt (i : Int) (dAt steps i) ((i + 1 : Nat) : Int) 0] := by
      unfold chain
      rw [List.range_succ, List.map_append]
      rfl
    have hset : (sumsTo steps n i).set ((i + 1 : Nat) : Int).toNat (wrap64 (rd (sumsTo steps n i) (i : Int) + dAt steps i)) = sumsTo steps n (i + 1) := by
      rw [rd_get, sumsTo_get steps (Nat.le_refl i), Int.toNat_natCast, show wrap64 (pre steps i + dAt steps i) = pre steps i + dAt steps i by unfold wrap64; omega]
      exact sumsTo_set steps (by omega)
    rw [hch, ← hset] at hnext
    have hj2 : ∀ (q : Bool) (x10 : Int), (q = true → rd steps (i : Int) = dAt steps i ∧ i < steps.length) → (q = false → x10 = dAt steps i) → Ev (fun k => tenetlaw02_GraphChains.j2 k (n : Int) steps (chain steps i) (sumsTo steps n i) (i : Int) x10 q a b) r := by
      intro q x10 h1 h3
      refine Ev.step (fun k => tenetlaw02_GraphChains.j2.eq_2 ..) ?_
      rw [w64n _ (by omega)]
      cases q with
      | true =>
        obtain ⟨h4, h5⟩ := h1 rfl
        refine Ev.pos rfl (Ev.pos (by omega) (Ev.pos (by omega) ?_))
        rw [h4]
        exact Ev.bind (Ev.now _) (Ev.bind (Ev.now _) (Ev.pos (by rw [chain_length]; omega) (Ev.pos (by omega) (Ev.pos (by omega) (Ev.pos (by omega) hnext)))))
      | false =>
        rw [h3 rfl]
        exact Ev.neg (by decide) (Ev.bind (Ev.now _) (Ev.bind (Ev.now _) (Ev.pos (by rw [chain_length]; omega) (Ev.pos (by omega) (Ev.pos (by omega) (Ev.pos (by omega) (Ev.pos (by omega) hnext)))))))
    refine Ev.step (fun k => tenetlaw02_GraphChains.l0.eq_2 ..) (Ev.pos (by rw [w64n _ (by omega)]; omega) ?_)
    have hrd : rd steps (i : Int) = steps.getD i 0 := rd_get
    refine Ev.both (fun h1 => Ev.pos (by omega) (Ev.both (fun h3 => ?_) (fun h3 => ?_))) (fun h1 => ?_)
    · by_cases h4 : rd steps (i : Int) ≤ 1000
      · rw [decide_eq_true h4]
        exact hj2 true 0 (fun _ => ⟨by unfold dAt; rw [if_pos ⟨by omega, by omega, by omega⟩]; exact hrd, by omega⟩) (fun h => by cases h)
      · rw [decide_eq_false h4]
        exact hj2 false 0 (fun h => by cases h) (fun _ => by unfold dAt; rw [if_neg (by omega)])
    · exact hj2 false 0 (fun h => by cases h) (fun _ => by unfold dAt; rw [if_neg (by omega)])
    · exact hj2 false 0 (fun h => by cases h) (fun _ => by unfold dAt; rw [if_neg (by omega)])
theorem GraphChains_pure (n : Int) (steps : List Int) (a b : Int) : ∃ k, tenetlaw02_GraphChains.f k n steps a b = some true := by
  refine Ev.rounds (g := fun k => tenetlaw02_GraphChains.f k n steps a b) ?_
  have hj : Ev (fun k => tenetlaw02_GraphChains.j0 k n steps true a b) true := Ev.step (fun k => tenetlaw02_GraphChains.j0.eq_2 ..) (Ev.pos rfl (Ev.bind ev_awake (Ev.now _)))
  refine Ev.both (fun _ => hj) (fun h1 => Ev.both (fun _ => hj) (fun h2 => Ev.both (fun _ => hj) (fun h3 => Ev.both (fun _ => hj) (fun h4 => Ev.both (fun _ => hj) (fun h5 => ?_)))))
  by_cases h6 : a ≥ b
  · rw [decide_eq_true h6]; exact hj
  rw [decide_eq_false h6]
  obtain ⟨m, rfl⟩ := Int.eq_ofNat_of_zero_le (show 0 ≤ n by omega)
  obtain ⟨x, rfl⟩ := Int.eq_ofNat_of_zero_le (show 0 ≤ a by omega)
  obtain ⟨y, rfl⟩ := Int.eq_ofNat_of_zero_le (show 0 ≤ b by omega)
  refine Ev.step (fun k => tenetlaw02_GraphChains.j0.eq_2 ..) (Ev.neg (by decide) (Ev.pos (by omega) (Ev.pos (by omega) ?_)))
  have hlen := sumsTo_length steps (n := m) (i := m - 1) (by omega)
  have h7 := pre_in steps x
  have h8 := pre_in steps y
  have h9 := pre_mono steps x (y - x)
  rw [show x + (y - x) = y by omega] at h9
  have hd : mn (wrap64 (rd (sumsTo steps m (m - 1)) (y : Int) - rd (sumsTo steps m (m - 1)) (x : Int))) 1000 = min (pre steps y - pre steps x) 1000 := by
    rw [rd_get, rd_get, sumsTo_get steps (by omega), sumsTo_get steps (by omega), show wrap64 (pre steps y - pre steps x) = pre steps y - pre steps x by unfold wrap64; omega]
    unfold mn
    omega
  have key := chains_l0 steps (n := m) (by omega) (by omega) (by omega) (x : Int) (y : Int) (r := true) (Ev.bind (chain_solves steps (by omega) (by omega)) (Ev.pos rfl (Ev.bind (ev_eqi _ (by rw [hlen]; omega)) ?_))) (m - 1) 0 (by omega)
  · rw [show (m : Int).toNat = m by omega]
    have e1 : sumsTo steps m 0 = List.replicate m 0 := by
      unfold sumsTo
      rw [show m = (m - (0 + 1)) + 1 by omega, List.replicate_succ]
      rfl
    rw [e1] at key
    exact key
  · refine Ev.step (fun k => tenetlaw02_GraphChains.j3.eq_2 ..) (Ev.neg (by decide) (Ev.pos (by omega) (Ev.pos (by omega) (Ev.pos (by omega) (Ev.pos (by omega) ?_)))))
    rw [hd]
    have f1 := chain_follows steps (n := m) (by omega) (by omega) (a := x) (b := y) (by omega) (by omega) (d := min (pre steps y - pre steps x) 1000) (by omega) (by omega)
    rw [decide_eq_true (by omega)] at f1
    refine Ev.bind (Ev.now _) (Ev.bind (Ev.now _) (Ev.bind f1 (Ev.pos rfl ?_)))
    refine Ev.step (fun k => tenetlaw02_GraphChains.j4.eq_2 ..) (Ev.neg (by decide) ?_)
    refine Ev.both (fun _ => Ev.bind ev_awake (Ev.now _)) (fun h10 => ?_)
    rw [show wrap64 (min (pre steps y - pre steps x) 1000 + 1) = min (pre steps y - pre steps x) 1000 + 1 by unfold wrap64; omega]
    have f2 := chain_follows steps (n := m) (by omega) (by omega) (a := x) (b := y) (by omega) (by omega) (d := min (pre steps y - pre steps x) 1000 + 1) (by omega) (by omega)
    rw [decide_eq_false (by omega)] at f2
    exact Ev.bind (Ev.now _) (Ev.bind (Ev.now _) (Ev.bind f2 (Ev.neg (by decide) (Ev.pos rfl (Ev.bind ev_awake (Ev.now _))))))
end Go.Proofs.Ytegejpcglabhbaa.G
