/- Plain law: what follows, by the reference. -/
import Derived.Test.YtegejpcglabhbaaGNc
import Derived.Test.YtegejpcglabhbaaGNb
import Derived.Test.YtegejpcglabhbaaGf66
namespace Go.Proofs.Ytegejpcglabhbaa.G
open Go.RowKit Go.Proofs.YtegejpcglabhbaaW.PrintWords Go.Proofs.YtegejpcglabhbaaW.PrintLast Go.Proofs.YtegejpcglabhbaaW.PrintMore
set_option linter.unusedVariables false
set_option linter.unusedSimpArgs false

theorem ev_longest {n : Nat} {E : List S105} (hn : n ≤ 1200) (hE : ArcsOk n E) {s : Nat} (hsn : s ≤ n) : Ev (fun k => tenetref02_longest.f k (n : Int) (E.map toE) (s : Int)) (lrounds (E.map toE) (n + 2) (outInit n s)) := ⟨0, fun k _ => by
  have hok : edgesOk (n : Int).toNat (E.map toE) := by
    intro e he
    obtain ⟨a, ha, rfl⟩ := List.mem_map.1 he
    have := hE a ha
    rw [Int.toNat_natCast]
    simp only [toE]
    omega
  show tenetref02_longest.f k (n : Int) (E.map toE) (s : Int) = _
  unfold tenetref02_longest.f
  rw [if_pos ⟨by omega, by omega, by omega, by omega, hok⟩, Int.toNat_natCast, Int.toNat_natCast]
  rfl⟩
theorem ev_edges {n : Nat} {l : List S44} (hs : SysOk n l) : Ev (fun k => tenetref02_edges.f k (n : Int) l) ((sysArcs n l).map toE) := ⟨5000, fun k hk => edges_eq n l hs k hk⟩
/-- A search from a node of a system that has a solution: the program's and the reference's. -/
theorem search_both {n : Nat} {l : List S44} (hs : SysOk n l) {which : List Int} (hw : Which l which) (hw3 : which.length ≤ 3000) {val : Nat → Int} (hv : Sol n (allArcs n l which) val) {s : Nat} (hsn : s ≤ n) :
    ∃ st, Ev (fun k => search k n l which (s : Int)) (.done st) ∧ Longest n (allArcs n l which) s (kn st) (sm st) ∧ (∀ v, v ≤ n → kn st v = true → -(1000 * (n + 1 : Nat) : Int) ≤ sm st v ∧ sm st v ≤ 1000 * (n : Int)) ∧
    ∃ out, Ev (fun k => tenetref02_longest.f k (n : Int) ((allArcs n l which).map toE) (s : Int)) (out, true) ∧ out.length = n + 1 ∧ ∀ v, v ≤ n → isR out v = kn st v ∧ dR out v = if kn st v = true then sm st v else 0 := by
  have hE := sys_arcs hs hw
  obtain ⟨R, hR, hP⟩ := search_spec hs hw hsn
  obtain ⟨st, rfl⟩ := far_sol hP hv
  obtain ⟨hl, _, _, hb⟩ := far_done hP hs.n1 hE hsn
  obtain ⟨_, out, ho, hol, hov⟩ := ref_longest hs.n1 hE hsn (sys_len hs hw hw3) _ hP
  refine ⟨st, hR, hl, hb, out, ?_, hol, hov⟩
  rw [← ho]
  exact ev_longest hs.n1 hE hsn
theorem rd94 (out : List S94) (v : Nat) : (rd_T94 out (v : Int)).f0 = isR out v ∧ (rd_T94 out (v : Int)).f1 = dR out v := by
  unfold rd_T94 isR dR
  rw [Int.toNat_natCast]
  exact ⟨rfl, rfl⟩
/-- What is asked of one arc. -/
theorem ask_spec {n : Nat} {l : List S44} (hs : SysOk n l) {which : List Int} (hw : Which l which) (hw3 : which.length ≤ 3000) {r : List Int} (hr : Least n (allArcs n l which) r) {a : S105} (h0 : 0 ≤ a.f0 ∧ a.f0 ≤ n) (h1 : 0 ≤ a.f1 ∧ a.f1 ≤ n) :
    ∃ b, Ev (fun k => (far k n a.f0 (rowsOf (n + 1) (allArcs n l which))).bind (askOf a)) b ∧ (b = true ↔ ∀ val, Sol n (allArcs n l which) val → val a.f0.toNat + a.f2 ≤ val a.f1.toNat) ∧
    ∃ out, Ev (fun k => tenetref02_longest.f k (n : Int) ((allArcs n l which).map toE) a.f0) (out, true) ∧ out.length = n + 1 ∧ b = (isR out a.f1.toNat && decide (a.f2 ≤ dR out a.f1.toNat)) := by
  obtain ⟨s, hs1⟩ := Int.eq_ofNat_of_zero_le h0.1
  obtain ⟨t, ht1⟩ := Int.eq_ofNat_of_zero_le h1.1
  obtain ⟨st, q1, q2, q3, out, q4, q5, q6⟩ := search_both hs hw hw3 hr.sol (s := s) (by omega)
  have hi := ask_iff hr q2 (by omega) (t := t) (by omega) a.f2
  rw [hs1, ht1, Int.toNat_natCast, Int.toNat_natCast]
  refine ⟨kn st t && decide (a.f2 ≤ sm st t), Ev.bind q1 ⟨0, fun k _ => ?_⟩, ?_, out, q4, q5, ?_⟩
  · show some (st.known.getD a.f1.toNat false && decide (a.f2 ≤ st.sum.getD a.f1.toNat 0)) = _
    rw [ht1, Int.toNat_natCast]
    rfl
  · rw [← hi, Bool.and_eq_true, decide_eq_true_eq]
  · obtain ⟨e1, e2⟩ := q6 t (by omega)
    rw [e1, e2]
    cases hk : kn st t with
    | true => rfl
    | false => rfl
theorem rd108 (L : List S105) (i : Nat) (h : i < L.length) : rd_T108 (L.map toE) (i : Int) = toE L[i] := by
  simp [rd_T108, List.getD_eq_getElem?_getD, List.getElem?_eq_getElem h]
theorem rfollows_l0 {n : Nat} {l : List S44} (hs : SysOk n l) {r : List Int} (hr : Least n (sysArcs n l) r) (L : List S105) (hL : L.length ≤ 100) (h : ∀ a ∈ L, 0 ≤ a.f0 ∧ a.f0 ≤ n ∧ 0 ≤ a.f1 ∧ a.f1 ≤ n) : ∀ (d i : Nat), d + i = L.length →
    ∃ b, Ev (fun k => tenetref02_follows.l0 k (n : Int) ((sysArcs n l).map toE) (L.map toE) (i : Int)) b ∧ (b = true ↔ ∀ val, Sol n (sysArcs n l) val → Suits val (L.drop i)) := by
  intro d
  induction d with
  | zero =>
    intro i hd
    refine ⟨true, Ev.step (fun k => tenetref02_follows.l0.eq_2 ..) (Ev.neg (by rw [List.length_map]; omega) (Ev.now _)), ⟨fun _ _ _ a ha => ?_, fun _ => rfl⟩⟩
    rw [List.drop_eq_nil_of_le (by omega)] at ha
    cases ha
  | succ d ih =>
    intro i hd
    have hi : i < L.length := by omega
    have ha := h L[i] (List.getElem_mem hi)
    obtain ⟨b1, _, h2, out, h5, h6, h7⟩ := ask_spec hs (which_upTo l) (by rw [upTo_length]; exact hs.len) hr (a := L[i]) ⟨ha.1, ha.2.1⟩ ⟨ha.2.2.1, ha.2.2.2⟩
    obtain ⟨b2, h3, h4⟩ := ih (i + 1) (by omega)
    obtain ⟨t, ht⟩ := Int.eq_ofNat_of_zero_le ha.2.2.1
    have hn := hs.n1
    refine ⟨b1 && b2, ?_, ?_⟩
    · refine Ev.step (fun k => tenetref02_follows.l0.eq_2 ..) (Ev.pos (by rw [List.length_map]; omega) (Ev.pos (by omega) ?_))
      rw [rd108 L i hi]
      refine Ev.bind h5 ?_
      show Ev (fun k => if 0 ≤ L[i].f1 then if L[i].f1 < (out.length : Int) then if (rd_T94 out L[i].f1).f0 = true then if (rd_T94 out L[i].f1).f1 < L[i].f2 then some false else tenetref02_follows.l0 k (n : Int) ((sysArcs n l).map toE) (L.map toE) (wrap64 ((i : Int) + 1)) else some false else none else none) (b1 && b2)
      rw [ht, Int.toNat_natCast] at h7
      obtain ⟨e1, e2⟩ := rd94 out t
      rw [ht, e1, e2, w64n _ (by omega)]
      refine Ev.pos (by omega) (Ev.pos (by omega) ?_)
      rw [h7]
      cases hk : isR out t with
      | false => exact Ev.neg (by decide) (Ev.now _)
      | true =>
        refine Ev.pos rfl ?_
        rw [Bool.true_and]
        by_cases hlt : dR out t < L[i].f2
        · rw [decide_eq_false (by omega)]
          exact Ev.pos hlt (Ev.now _)
        · rw [decide_eq_true (by omega)]
          exact Ev.neg hlt h3
    · rw [Bool.and_eq_true, h2, h4, List.drop_eq_getElem_cons hi]
      exact ⟨fun ⟨p, q⟩ val hv b hb => by
        rcases List.mem_cons.1 hb with rfl | hb
        · exact p val hv
        · exact q val hv b hb, fun p => ⟨fun val hv => p val hv L[i] List.mem_cons_self, fun val hv b hb => p val hv b (List.mem_cons_of_mem _ hb)⟩⟩
/-- The reference's follows tells just that. -/
theorem rfollows_ev {n : Nat} {l : List S44} (hs : SysOk n l) {c : S44} (hc : FitOk n c) :
    ∃ b, Ev (fun k => tenetref02_follows.f k (n : Int) l c.f0.f0 c.f0.f1 c.f1.f0 c.f1.f1) b ∧ (b = true ↔ Entails n (sysArcs n l) c) := by
  rcases solve_cases hs with ⟨r, hr, _, h2⟩ | ⟨hno, _, h2⟩
  · obtain ⟨b, h3, h4⟩ := rfollows_l0 hs hr (arcsOf (n : Int) 0 c) (by have := (arcs_len (n := (n : Int)) (i := 0) hc).1; omega) (arcs_in hc) _ 0 (Nat.add_zero _)
    refine ⟨b, Ev.bind h2 (Ev.pos rfl (Ev.bind (ev_edges hs) (Ev.bind (a := (arcsOf (n : Int) 0 c).map toE) ⟨11, fun k hk => ?_⟩ h3))), ?_⟩
    · have := parts_eq (n : Int) 0 c hc (by omega) k hk [] (by simp)
      rwa [List.nil_append] at this
    · rw [h4, List.drop_zero]
      rfl
  · exact ⟨true, Ev.bind h2 (Ev.neg (by decide) (Ev.now _)), ⟨fun _ val hv => (hno ⟨val, hv⟩).elim, fun _ => rfl⟩⟩
end Go.Proofs.Ytegejpcglabhbaa.G
