/- A part of this claim's proof: texts of its author, and printed ones, packed by a program of its author's. -/
import Derived.Test.YtegejpcglabhbaaCe31
import Derived.Test.YtegejpcglabhbaaCe33
import Derived.Test.YtegejpcglabhbaaCe39
import Derived.Test.YtegejpcglabhbaaCe40
namespace Go.Proofs.Ytegejpcglabhbaa.G
open Go.RowKit Go.Proofs.YtegejpcglabhbaaW.PrintWords Go.Proofs.YtegejpcglabhbaaW.PrintLast Go.Proofs.YtegejpcglabhbaaW.PrintMore
set_option linter.unusedVariables false
set_option linter.unusedSimpArgs false
theorem asc_ext : ∀ (a b : List Int), a.Pairwise (· < ·) → b.Pairwise (· < ·) → (∀ x, x ∈ a ↔ x ∈ b) → a = b
 | [], [], _, _, _ => rfl
 | [], y :: b, _, _, h => by have := (h y).2 List.mem_cons_self; cases this
 | x :: a, [], _, _, h => by have := (h x).1 List.mem_cons_self; cases this
 | x :: a, y :: b, ha, hb, h => by
  have ha1 := (List.pairwise_cons.1 ha).1
  have hb1 := (List.pairwise_cons.1 hb).1
  have e : x = y := by
   rcases List.mem_cons.1 ((h x).1 List.mem_cons_self) with e | e
   ·exact e
   ·rcases List.mem_cons.1 ((h y).2 List.mem_cons_self) with e2 | e2
    ·exact e2.symm
    ·have := ha1 _ e2
     have := hb1 _ e
     omega
  subst e
  rw [asc_ext a b (List.pairwise_cons.1 ha).2 (List.pairwise_cons.1 hb).2 (fun z => ⟨fun hz => by
   rcases List.mem_cons.1 ((h z).1 (List.mem_cons_of_mem _ hz)) with e | e
   ·have := ha1 _ hz; omega
   ·exact e, fun hz => by
   rcases List.mem_cons.1 ((h z).2 (List.mem_cons_of_mem _ hz)) with e | e
   ·have := hb1 _ hz; omega
   ·exact e⟩)]
theorem upTo_asc (n : Nat) : (upTo n).Pairwise (· < ·) := by
 unfold upTo
 rw [List.pairwise_map]
 exact List.pairwise_lt_range.imp fun h => by omega
theorem mem_upTo {n : Nat} {x : Int} : x ∈ upTo n ↔ 0 ≤ x ∧ x < n := by
 unfold upTo
 rw [List.mem_map]
 constructor
 ·rintro ⟨a, ha, rfl⟩
  have := List.mem_range.1 ha
  omega
 ·rintro ⟨h0, h1⟩
  exact ⟨x.toNat, List.mem_range.2 (by omega), by omega⟩
theorem upTo_snoc (i : Nat) : upTo i ++ [(i : Int)] = upTo (i + 1) := by unfold upTo; rw [List.range_succ, List.map_append]; rfl
theorem upTo_len (n : Nat) : (upTo n).length = n := by simp [upTo]
theorem setR_all (R : Nat → Nat → Bool) (v : Nat) : ∀ (d w : Nat) (set : List Int) (seen : List Bool), (∀ x, w ≤ x → x < w + d → R v x = true) → set = upTo w → (setR R v d w set seen).1 = upTo (w + d)
 | 0, w, set, seen, _, h => h
 | d + 1, w, set, seen, hR, h => by
  simp only [setR]
  rw [if_pos (hR w (Nat.le_refl w) (by omega)), setR_all R v d (w + 1) _ _ (fun x h1 h2 => hR x (by omega) (by omega)) (by rw [h, upTo_snoc])]
  rw [show w + 1 + d = w + (d + 1) by omega]
theorem clsR_seen (R : Nat → Nat → Bool) (n : Nat) : ∀ (d v : Nat) (seen : List Bool) (sets : List (List Int)), (∀ x, v ≤ x → x < v + d → seen.getD x false = true) → clsR R n d v seen sets = sets
 | 0, _, _, _, _ => rfl
 | d + 1, v, seen, sets, h => by
  simp only [clsR]
  rw [if_pos (h v (Nat.le_refl v) (by omega))]
  exact clsR_seen R n d (v + 1) seen sets fun x h1 h2 => h x (by omega) (by omega)
theorem clsR_one (R : Nat → Nat → Bool) {n : Nat} (h2 : 2 ≤ n) (hR : ∀ x, x < n → R 0 x = true) : clsR R n n 0 (List.replicate n false) [] = [upTo n] := by
 obtain ⟨m, rfl⟩ : ∃ m, n = m + 1 := ⟨n - 1, by omega⟩
 have h3 := setR_seen R 0 (m + 1) 0 [] (List.replicate (m + 1) false) (by simp)
 rw [clsR, if_neg (by simp), Nat.sub_zero]
 rw [clsR_seen R (m + 1) m (0 + 1) _ _ (fun x h1 h4 => ((h3.2 x).2 (.inr ⟨by omega, by omega, hR x (by omega)⟩) : seenAt _ x))]
 rw [setR_all R 0 (m + 1) 0 [] _ (fun x _ h => hR x (by omega)) rfl, Nat.zero_add]
 unfold moreSets
 rw [upTo_len, if_pos (by omega)]
 rfl
def nxt (n i : Nat) : Nat := if i + 1 = n then 0 else i + 1
theorem nxt_mod {n i : Nat} (h : i < n) : (i + 1) % n = nxt n i := by
 unfold nxt
 split
 ·subst n; exact Nat.mod_self _
 ·exact Nat.mod_eq_of_lt (by omega)
def cir (n : Nat) (d : Nat → Int) (m : Nat) : List S44 := (List.range m).map fun (i : Nat) => cAt (i : Int) (d i) (nxt n i : Int) 0
theorem cir_len (n : Nat) (d : Nat → Int) (m : Nat) : (cir n d m).length = m := by simp [cir]
theorem cir_get (n : Nat) (d : Nat → Int) (m : Nat) {i : Nat} (h : i < (cir n d m).length) : (cir n d m)[i] = cAt (i : Int) (d i) (nxt n i : Int) 0 := by simp [cir]
theorem cir_valid {n : Nat} (h2 : 2 ≤ n) (hn : n ≤ 1200) {d : Nat → Int} (hd : ∀ i, 0 ≤ d i ∧ d i ≤ 1) : validB (n : Int) (cir n d n) = true := by
 unfold validB
 rw [decide_eq_true (by omega), decide_eq_true (by omega), decide_eq_true (by rw [cir_len]; omega), Bool.true_and, Bool.true_and, Bool.true_and, List.all_eq_true]
 intro c hc
 obtain ⟨i, hi, rfl⟩ := List.mem_map.1 hc
 have := List.mem_range.1 hi
 have := hd i
 have : nxt n i < n := by unfold nxt; split <;> omega
 exact fits_cAt (by omega) (by omega) (by omega) (by omega) (by omega) (by omega) (by omega) (by omega) (by omega) (by omega)
theorem cir_sol {n : Nat} {d : Nat → Int} {val : Nat → Int} (h : Sol n (sysArcs n (cir n d n)) val) (i : Nat) (hi : i < n) : val i + d i ≤ val (nxt n i) := by
 have h2 := (sol_sys.1 h).2.2 (cAt (i : Int) (d i) (nxt n i : Int) 0) (List.mem_map.2 ⟨i, List.mem_range.2 hi, rfl⟩)
 have h3 := ((suits_cAt (n := n) (by omega) (by omega)).1 h2).2
 simp only [Int.toNat_natCast] at h3
 omega
theorem cir_up {n : Nat} {d : Nat → Int} (hd : ∀ i, 0 ≤ d i ∧ d i ≤ 1) {val : Nat → Int} (h : Sol n (sysArcs n (cir n d n)) val) (a : Nat) : ∀ b, a + b < n → val a ≤ val (a + b)
 | 0, _ => Int.le_refl _
 | b + 1, hb => by
  have h1 := cir_up hd h a b (by omega)
  have h2 := cir_sol h (a + b) (by omega)
  have h3 := hd (a + b)
  unfold nxt at h2
  rw [if_neg (by omega)] at h2
  show _ ≤ val (a + b + 1)
  omega
def one (k i : Nat) : Int := if i = k then 1 else 0
theorem one_in (k i : Nat) : 0 ≤ one k i ∧ one k i ≤ 1 := by unfold one; split <;> omega
theorem cir_no {n k : Nat} (hk : k < n) : ¬ ∃ val, Sol n (sysArcs n (cir n (one k) n)) val := by
 rintro ⟨val, h⟩
 have h1 := cir_up (one_in k) h 0 k (by omega)
 have h2 := cir_sol h k hk
 rw [show one k k = 1 by simp [one]] at h2
 unfold nxt at h2
 rw [Nat.zero_add] at h1
 split at h2
 ·omega
 ·have h3 := cir_up (one_in k) h (k + 1) (n - 1 - (k + 1)) (by omega)
  rw [show k + 1 + (n - 1 - (k + 1)) = n - 1 by omega] at h3
  have h4 := cir_sol h (n - 1) (by omega)
  have h5 := one_in k (n - 1)
  unfold nxt at h4
  rw [if_pos (by omega)] at h4
  omega
def pos (n i v : Nat) : Nat := if v ≤ i then v + n - 1 - i else v - 1 - i
theorem cir_part {n k : Nat} (hk : k < n) {which : List Int} (hw : ∀ x ∈ which, 0 ≤ x ∧ x < n) {i : Nat} (hi : i < n) (hnot : (i : Int) ∉ which) : ∃ val, Sol n (allArcs n (cir n (one k) n) which) val := by
 refine ⟨fun v => if v = n then 0 else if pos n i v > pos n i k then 1 else 0, sol_which.2 ⟨by simp, fun v hv => ?_, fun x hx => ?_⟩⟩
 ·show 0 ≤ if v = n then 0 else if pos n i v > pos n i k then (1 : Int) else 0
  split
  ·omega
  ·split <;> omega
 ·have hx1 := hw x hx
  obtain ⟨j, rfl⟩ := Int.eq_ofNat_of_zero_le hx1.1
  have hj : j < n := by omega
  have hji : j ≠ i := fun e => hnot (e ▸ hx)
  rw [rd44_get (by rw [cir_len]; exact hj), cir_get]
  refine (suits_cAt (n := n) (by omega) (by omega)).2 ?_
  simp only [Int.toNat_natCast]
  have hnx : nxt n j < n := by unfold nxt; split <;> omega
  rw [if_pos trivial, if_neg (show ¬ nxt n j = n by omega), if_neg (show ¬ j = n by omega)]
  have hp : pos n i (nxt n j) = pos n i j + 1 := by unfold pos nxt; repeat' (first | omega | split)
  have h1 : one k j = 1 → j = k := by unfold one; split <;> omega
  have h2 := one_in k j
  simp only [hp]
  constructor
  ·split <;> omega
  ·by_cases e : j = k
   ·subst e
    rw [if_neg (Nat.lt_irrefl _), if_pos (by omega)]
    omega
   ·have : one k j = 0 := by unfold one; rw [if_neg e]
    rw [this]
    split
    ·rw [if_pos (by omega)]; omega
    ·split <;> omega
theorem cir_core {n k : Nat} (hk : k < n) {r : List Int} (hC : CoreOk n (cir n (one k) n) r) : r = upTo n := by
 have hw : ∀ x ∈ r, 0 ≤ x ∧ x < n := fun x hx => by
  have := hC.which x hx
  rw [cir_len] at this
  exact this
 refine asc_ext _ _ hC.asc (upTo_asc n) fun x => ⟨fun hx => mem_upTo.2 (hw x hx), fun hx => ?_⟩
 have h := mem_upTo.1 hx
 obtain ⟨i, rfl⟩ := Int.eq_ofNat_of_zero_le h.1
 exact Classical.byContradiction fun hnot => hC.no (cir_part hk hw (by omega) hnot)
theorem cir_classes {n : Nat} (h2 : 2 ≤ n) (hn : n ≤ 1200) : Ev (fun k => graph_Classes.f k (n : Int) (cir n (fun _ => 0) n)) ([upTo n], 0) := by
 have hd : ∀ i : Nat, 0 ≤ (0 : Int) ∧ (0 : Int) ≤ 1 := fun _ => by omega
 have hv := cir_valid h2 hn (d := fun _ => 0) hd
 obtain ⟨r, h1, _, h3⟩ := Classes_both (n : Int) (cir n (fun _ => 0) n)
 rcases h3 with ⟨h3, _⟩ | ⟨m, hm, _, hs, h3⟩
 ·rw [hv] at h3; cases h3
 obtain rfl : n = m := by omega
 rcases h3 with ⟨hno, _⟩ | ⟨s, hL, rfl⟩
 ·refine (hno ⟨fun _ => 0, sol_sys.2 ⟨rfl, fun _ _ => Int.le_refl _, fun c hc => ?_⟩⟩).elim
  obtain ⟨i, _, rfl⟩ := List.mem_map.1 hc
  exact (suits_cAt (n := n) (by omega) (by omega)).2 ⟨by decide, by show (0 : Int) + (0 - 0) ≤ 0; decide⟩
 ·have e := clsR_one (same (sysArcs n (cir n (fun _ => 0) n)) s) h2 fun x hx => by
   refine (equal_iff hL (fun u hu => ⟨natArc n u, mem_sysArcs.2 (.inl ⟨u, hu, rfl⟩), rfl, rfl, rfl⟩) (sys_arcs hs (which_upTo _)) (a := 0) (b := x) (by omega) hx).2 fun val hval => ?_
   have a1 := cir_up hd hval 0 x (by omega)
   have a2 := cir_up hd hval x (n - 1 - x) (by omega)
   have a3 := cir_sol hval (n - 1) (by omega)
   unfold nxt at a3
   rw [if_pos (by omega)] at a3
   rw [Nat.zero_add] at a1
   rw [show x + (n - 1 - x) = n - 1 by omega] at a2
   omega
  rw [e] at h1
  exact h1
theorem cir_set {n k : Nat} (hk : k < n) : (cir n (fun _ => 0) n).set k (⟨(⟨0, [⟨(k : Int), 1⟩]⟩ : S41), (⟨(rd_T44 (cir n (fun _ => 0) n) k).f1.f0, (rd_T44 (cir n (fun _ => 0) n) k).f1.f1⟩ : S41)⟩ : S44) = cir n (one k) n := by
 rw [rd44_get (by rw [cir_len]; exact hk), cir_get]
 apply List.ext_getElem (by rw [List.length_set, cir_len, cir_len])
 intro i h1 h2
 rw [List.getElem_set, cir_get, cir_get]
 split
 ·rename_i e
  subst e
  rw [show one k k = 1 by simp [one]]
  rfl
 ·rename_i e
  rw [show one k i = 0 by unfold one; rw [if_neg (fun h => e h.symm)]]
theorem circ_j3 {n k : Nat} (h2 : 2 ≤ n) (hn : n ≤ 1200) (hk : k < n) : Ev (fun q => tenetlaw02_GraphCircles.j3 q (n : Int) (cir n (fun _ => 0) n) (upTo n) (k : Int)) true := by
 have hv := cir_valid h2 hn (one_in k)
 obtain ⟨m, hm, hs⟩ := valid_ok hv
 obtain rfl : n = m := by omega
 refine Ev.step (fun k => tenetlaw02_GraphCircles.j3.eq_2 ..) (Ev.bind (ev_at _ _) (Ev.pos (by omega) (Ev.pos (by rw [cir_len]; omega) (Ev.bind (Ev.now _) ?_))))
 rw [Int.toNat_natCast, cir_set hk]
 rcases solve_cases hs with ⟨q, hq, _, _⟩ | ⟨_, h1, _⟩
 ·exact (cir_no hk ⟨_, hq.sol⟩).elim
 rcases explain_ev hs with ⟨hy, _⟩ | ⟨_, r, h3, hC, _⟩
 ·exact (cir_no hk hy).elim
 obtain rfl := cir_core hk hC
 have e1 : ∀ q, graph_Explain.f q (n : Int) (cir n (one k) n) = explainN q n (cir n (one k) n) := fun q => by
  unfold graph_Explain.f
  rw [if_pos hv, Int.toNat_natCast]
 exact Ev.bind (Solve_ev hv h1) (Ev.bind (Ev.congr e1 h3) (Ev.pos rfl (Ev.pos rfl (Ev.pos rfl (Ev.bind (ev_eqi _ (by rw [upTo_len]; omega)) (Ev.pos rfl (Ev.bind ev_awake (Ev.now _))))))))
theorem circ_l0 {n : Nat} (h2 : 2 ≤ n) (hn : n ≤ 1200) (step : Int) : ∀ (d i : Nat), d + i = n → Ev (fun k => tenetlaw02_GraphCircles.l0 k (n : Int) step (cir n (fun _ => 0) i) (upTo i) (i : Int)) true := by
 intro d
 induction d with
 | zero =>
  intro i hd
  obtain rfl : i = n := by omega
  refine Ev.step (fun k => tenetlaw02_GraphCircles.l0.eq_2 ..) (Ev.neg (by omega) (Ev.bind (cir_classes h2 hn) (Ev.pos rfl (Ev.pos rfl (Ev.pos (by simp) (Ev.bind (show Ev (fun k => tenetref00_EqInts.f k (upTo i) (upTo i)) true from ev_eqi _ (by rw [upTo_len]; omega)) ?_))))))
  refine Ev.step (fun k => tenetlaw02_GraphCircles.j2.eq_2 ..) (Ev.neg (by decide) (Ev.neg (by omega) ?_))
  have hlo := Int.tmod_lt_of_pos step (show (0 : Int) < (i : Int) by omega)
  have hneg : -(i : Int) < Int.tmod step i := by
   have := Int.tmod_lt_of_pos (-step) (show (0 : Int) < (i : Int) by omega)
   rw [Int.neg_tmod] at this
   omega
  refine Ev.both (fun h => ?_) (fun h => ?_)
  ·obtain ⟨k, hk⟩ := Int.eq_ofNat_of_zero_le (show 0 ≤ Int.tmod step i + i by omega)
   rw [show wrap64 (Int.tmod step i + i) = Int.tmod step i + i by unfold wrap64; omega, hk]
   exact circ_j3 h2 hn (by omega)
  ·obtain ⟨k, hk⟩ := Int.eq_ofNat_of_zero_le (show 0 ≤ Int.tmod step i by omega)
   rw [hk]
   exact circ_j3 h2 hn (by omega)
 | succ d ih =>
  intro i hd
  have hnext := ih (i + 1) (by omega)
  have e : cir n (fun _ => 0) (i + 1) = cir n (fun _ => 0) i ++ [cAt (i : Int) 0 (nxt n i : Int) 0] := by
   unfold cir
   rw [List.range_succ, List.map_append]
   rfl
  have e2 : Int.tmod (wrap64 ((i : Int) + 1)) (n : Int) = (nxt n i : Int) := by
   rw [w64n _ (by omega), ← nxt_mod (by omega)]
   rfl
  rw [e, ← upTo_snoc] at hnext
  refine Ev.step (fun k => tenetlaw02_GraphCircles.l0.eq_2 ..) (Ev.pos (by omega) (Ev.bind (ev_at _ _) (Ev.neg (by omega) ?_)))
  rw [e2]
  refine Ev.bind (ev_at _ _) (Ev.pos (by rw [cir_len]; omega) (Ev.pos (by rw [upTo_len]; omega) ?_))
  rw [w64n _ (by omega)]
  exact hnext
theorem GraphCircles_pure (n step : Int) : ∃ k, tenetlaw02_GraphCircles.f k n step = some true := by
 refine Ev.rounds (g := fun k => tenetlaw02_GraphCircles.f k n step) ?_
 have hj : Ev (fun k => tenetlaw02_GraphCircles.j0 k n step true) true := Ev.step (fun k => tenetlaw02_GraphCircles.j0.eq_2 ..) (Ev.pos rfl (Ev.bind ev_awake (Ev.now _)))
 refine Ev.both (fun _ => hj) (fun h1 => ?_)
 by_cases h2 : n > 1200
 ·rw [decide_eq_true h2]; exact hj
 rw [decide_eq_false h2]
 obtain ⟨m, rfl⟩ := Int.eq_ofNat_of_zero_le (show 0 ≤ n by omega)
 exact Ev.step (fun k => tenetlaw02_GraphCircles.j0.eq_2 ..) (Ev.neg (by decide) (circ_l0 (n := m) (by omega) (by omega) step m 0 (by omega)))
end Go.Proofs.Ytegejpcglabhbaa.G
