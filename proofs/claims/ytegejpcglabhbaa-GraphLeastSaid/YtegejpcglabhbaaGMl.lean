/- Plain law: GraphLeast answers true. -/
import Derived.Test.YtegejpcglabhbaaGMb
import Derived.Test.YtegejpcglabhbaaGf5
namespace Go.Proofs.Ytegejpcglabhbaa.G
open Go.RowKit Go.Proofs.YtegejpcglabhbaaW.PrintWords Go.Proofs.YtegejpcglabhbaaW.PrintLast Go.Proofs.YtegejpcglabhbaaW.PrintMore
set_option linter.unusedVariables false
set_option linter.unusedSimpArgs false

theorem least_l0 {n : Nat} {l : List S44} (hv : validB (n : Int) l = true) (hs : SysOk n l) {r : List Int} (hr : Least n (sysArcs n l) r) (vals : List Int) : ∀ (d i : Nat), d + i = n → Ev (fun k => tenetlaw02_GraphLeast.l0 k n l vals r (holdsR n l vals).1 (holdsR n l vals).2 (i : Int)) true := by
  have hlen := hr.len
  intro d
  induction d with
  | zero =>
    intro i hd
    refine Ev.step (fun k => tenetlaw02_GraphLeast.l0.eq_2 ..) (Ev.neg (by omega) (Ev.bind ev_awake (Ev.now _)))
  | succ d ih =>
    intro i hd
    have hi : i < r.length := by omega
    have e : rd r (i : Int) = r[i] := by simp [rd, List.getD_eq_getElem?_getD, List.getElem?_eq_getElem hi]
    have hn := hs.n1
    have hj3 : Ev (fun k => tenetlaw02_GraphLeast.j3 k n l vals r (holdsR n l vals).1 (holdsR n l vals).2 (i : Int) false) true := by
      refine Ev.step (fun k => tenetlaw02_GraphLeast.j3.eq_2 ..) (Ev.neg (by decide) (Ev.pos (by omega) (Ev.pos (by omega) ?_)))
      rw [w64n _ (by omega)]
      refine Ev.both (fun _ => ih (i + 1) (by omega)) (fun h0 => ?_)
      rw [e] at h0
      have hb := hr.range _ (List.getElem_mem hi)
      refine Ev.bind (copy_ev r (by omega)) (Ev.pos (by omega) ?_)
      rw [Int.toNat_natCast, e, show wrap64 (r[i] - 1) = r[i] - 1 by unfold wrap64; omega]
      have hrange : InRange (r.set i (r[i] - 1)) := fun v hv => by
        rcases List.mem_or_eq_of_mem_set hv with hv | hv
        · exact hr.range v hv
        · omega
      obtain ⟨h1, h2, h3⟩ := holdsR_sol hv hs (vals := r.set i (r[i] - 1)) (by rw [List.length_set]; omega) hrange
      refine Ev.bind (holds_ev (n : Int) l (r.set i (r[i] - 1))) ?_
      have hne : (holdsR n l (r.set i (r[i] - 1))).1 ≠ -1 := fun hq => by
        have := hr.le (h2.1 hq) i (by omega)
        rw [gset _ _ _ _ _ hi, if_pos rfl, get_of hi] at this
        omega
      exact Ev.neg (by have := h3 hne; omega) (Ev.pos h1 (ih (i + 1) (by omega)))
    refine Ev.step (fun k => tenetlaw02_GraphLeast.l0.eq_2 ..) (Ev.pos (by omega) ?_)
    refine Ev.both (fun h1 => ?_) (fun _ => hj3)
    refine Ev.both (fun h2 => ?_) (fun _ => hj3)
    obtain ⟨m, hm, _, _, hl, hrg⟩ := holdsR_ok h1
    obtain rfl : n = m := by omega
    refine Ev.pos (by omega) (Ev.pos (by omega) (Ev.pos (by omega) ?_))
    have e2 : rd vals (i : Int) = vals.getD i 0 := by simp [rd]
    have hle := hr.le ((holdsR_sol hv hs hl hrg).2.1.1 h2) i (by omega)
    rw [e, e2, decide_eq_false (by rw [get_of hi] at hle; omega)]
    exact hj3
theorem GraphLeast_pure (n : Int) (l : List S44) (vals : List Int) : ∃ k, tenetlaw02_GraphLeast.f k n l vals = some true := by
  refine Ev.rounds (g := fun k => tenetlaw02_GraphLeast.f k n l vals) ?_
  have hj : Ev (fun k => tenetlaw02_GraphLeast.j0 k n l vals true) true := Ev.step (fun k => tenetlaw02_GraphLeast.j0.eq_2 ..) (Ev.pos rfl (Ev.bind ev_awake (Ev.now _)))
  rcases ev_heavy n l 120 (by omega) with h | ⟨_, _, h⟩
  · exact Ev.bind h (Ev.pos rfl hj)
  refine Ev.bind h (Ev.neg (by decide) (Ev.both (fun _ => hj) (fun _ => Ev.bind (ev_valid n l) ?_)))
  cases hv : validB n l with
  | false => exact hj
  | true =>
    obtain ⟨m, rfl, hs⟩ := valid_ok hv
    refine Ev.step (fun k => tenetlaw02_GraphLeast.j0.eq_2 ..) (Ev.neg (by decide) ?_)
    rcases prog_cases hs with ⟨r, hr, h1⟩ | ⟨hno, h1⟩
    · refine Ev.bind (Solve_ev hv h1) (Ev.bind (holds_ev m l vals) (Ev.pos rfl (Ev.bind (holds_ev m l r) ?_)))
      obtain ⟨q1, q2, q3⟩ := holdsR_sol hv hs hr.len hr.range
      refine Ev.pos (q2.2 hr.sol) (Ev.pos q1 ?_)
      have hl := hr.len
      rw [show ((r.length : Int) != (m : Int)) = false by rw [bne_eq_false_iff_eq]; omega]
      exact Ev.step (fun k => tenetlaw02_GraphLeast.j1.eq_2 ..) (Ev.neg (by decide) (least_l0 hv hs hr vals m 0 (by omega)))
    · refine Ev.bind (Solve_ev hv h1) (Ev.bind (holds_ev m l vals) (Ev.neg (by decide) (Ev.pos rfl ?_)))
      refine Ev.both (fun h2 => ?_) (fun _ => Ev.bind ev_awake (Ev.now _))
      obtain ⟨m2, hm, _, _, hl, hrg⟩ := holdsR_ok h2
      obtain rfl : m = m2 := by omega
      obtain ⟨q1, q2, q3⟩ := holdsR_sol hv hs hl hrg
      exact Ev.pos (q3 fun hq => hno ⟨_, q2.1 hq⟩) (Ev.bind ev_awake (Ev.now _))
end Go.Proofs.Ytegejpcglabhbaa.G
