/- Hand-made contract: graph.Bound. -/
import Derived.Test.YtegejpcglabhbaaGHs
namespace Go.Proofs.Ytegejpcglabhbaa.G
open Go.RowKit Go.Proofs.YtegejpcglabhbaaW.PrintWords Go.Proofs.YtegejpcglabhbaaW.PrintLast Go.Proofs.YtegejpcglabhbaaW.PrintMore
set_option linter.unusedVariables false
set_option linter.unusedSimpArgs false

def boundOf (n : Nat) : FRes → Option (Int × Bool × Int)
  | .loop _ => none
  | .done s => if s.known.getD n false = true then some (wrap64 (-(s.sum.getD n 0)), true, 0) else some (0, false, 0)
def boundN (k n : Nat) (l : List S44) (v : Int) : Option (Int × Bool × Int) := (solvedN k n l).bind fun s => if s.2 = 0 then (search k n l (upTo l.length) v).bind (boundOf n) else some (0, false, s.2)
def graph_Bound.f (k : Nat) (a0 : Int) (l1 : List S44) (a2 : Int) : Option (Int × Bool × Int) :=
  if validB a0 l1 = true then if a2 < 0 ∨ a0 ≤ a2 then some (0, false, 1) else boundN k a0.toNat l1 a2 else some (0, false, 4)
theorem graph_Bound.mono : ∀ a0 l1 a2 k, LeO (graph_Bound.f k a0 l1 a2) (graph_Bound.f (k + 1) a0 l1 a2) := fun _ _ _ _ =>
  LeO.ite (LeO.ite (LeO.refl _) (LeO.bind (solvedN.mono _ _ _) fun _ => LeO.ite (LeO.bind (search.mono _ _ _ _ _) fun _ => LeO.refl _) (LeO.refl _))) (LeO.refl _)
set_option maxHeartbeats 2000000 in
theorem graph_Bound.calls (k : Nat) (a0 : Int) (A1 : Option Addr) (c1 : Nat) (l1 : List (S44)) (a2 : Int) (r1 : Int) (r2 : Bool) (r3 : Int) (w : World) (hr1 : Kd.C k44 w A1 l1.length l1) (hc1 : l1.length ≤ c1) (h : graph_Bound.f k a0 l1 a2 = some (r1, r2, r3)) :
    Calls Try.prog 30 #[.int .i64 a0, .slice A1 l1.length c1, .int .i64 a2] w fun e w' => e = .returned (.tuple #[.int .i64 r1, .bool r2, .int .i64 r3]) ∧ Below w.heap.size w w' := by
  have HR := Aside0.mk hr1
  have HC := Aside0.mk hc1
  have H := Aside0.mk h
  clear hr1 hc1 h
  go_enter Try.func30, Try.ntmps30
  go_wp2_with (fail)
  refine (graph_Valid.calls a0 A1 c1 l1 (validB a0 l1) _ HR.out HC.out rfl).mono ?_
  rintro e w1 ⟨rfl, hb⟩
  have HB := Aside0.mk hb
  clear hb
  have H2 := H.out
  unfold graph_Bound.f at H2
  cases hv : validB a0 l1 with
  | false =>
    rw [hv, if_neg (by decide)] at H2
    obtain ⟨rfl, rfl, rfl⟩ : (0 : Int) = r1 ∧ false = r2 ∧ (4 : Int) = r3 := by simpa using H2
    clear hv H2 H
    go_wp2
    (try simp only [Exit.inBlock, Exit.then])
    refine bodyPost_ret (results_list (rs := [.tmp 6, .tmp 7, .tmp 8]) rfl (by simp) (.tmp (.tmp (.tmp .nil)))) rfl ?_
    exact ⟨rfl, HB.out⟩
  | true =>
    rw [hv, if_pos rfl] at H2
    obtain ⟨n, rfl, hs⟩ := valid_ok hv
    have HS := Aside0.mk hs
    rw [Int.toNat_natCast] at H2
    clear hv hs H
    by_cases hq : a2 < 0 ∨ (n : Int) ≤ a2
    · rw [if_pos hq] at H2
      obtain ⟨rfl, rfl, rfl⟩ : (0 : Int) = r1 ∧ false = r2 ∧ (1 : Int) = r3 := by simpa using H2
      clear H2
      by_cases h1 : a2 < 0
      · have hd : decide (a2 < 0) = true := decide_eq_true h1
        clear hq
        go_wp2
        (try simp only [Exit.inBlock, Exit.then])
        refine bodyPost_ret (results_list (rs := [.tmp 6, .tmp 7, .tmp 8]) rfl (by simp) (.tmp (.tmp (.tmp .nil)))) rfl ?_
        exact ⟨rfl, HB.out⟩
      · have hd : decide (a2 < 0) = false := decide_eq_false h1
        have hd2 : decide ((n : Int) ≤ a2) = true := decide_eq_true (hq.resolve_left h1)
        clear hq
        go_wp2
        (try simp only [Exit.inBlock, Exit.then])
        refine bodyPost_ret (results_list (rs := [.tmp 6, .tmp 7, .tmp 8]) rfl (by simp) (.tmp (.tmp (.tmp .nil)))) rfl ?_
        exact ⟨rfl, HB.out⟩
    · rw [if_neg hq] at H2
      have h1 : 0 ≤ a2 := by omega
      have h2 : a2 < (n : Int) := by omega
      have hd : decide (a2 < 0) = false := decide_eq_false (by omega)
      have hd2 : decide ((n : Int) ≤ a2) = false := decide_eq_false (by omega)
      clear hq
      unfold boundN at H2
      obtain ⟨⟨s1, s2⟩, hs, H3⟩ := Option.bind_eq_some_iff.1 H2
      have HSOL := Aside0.mk hs
      replace H3 := Aside0.mk H3
      clear hs H2
      go_wp2_with (fail)
      refine (solved_any k n l1 A1 c1 _ HS.out (Kd.C_below HR.out HB.out) HC.out s1 s2 HSOL.out).mono ?_
      rintro e w2 ⟨vs, rfl, hvs, hb⟩
      have HB2 := Aside0.mk (below_step HB.out hb)
      clear hvs hb HB HSOL hd hd2
      have H4 := H3.out
      by_cases h5 : s2 = 0
      · rw [if_pos h5] at H4
        subst h5
        obtain ⟨R, hR, H6⟩ := Option.bind_eq_some_iff.1 H4
        have HRR := Aside0.mk hR
        replace H6 := Aside0.mk H6
        clear hR H3 H4
        go_wp2_with (fail)
        refine (graph_every.calls 0 A1 c1 l1 (upTo l1.length) _ (Kd.C_below HR.out HB2.out) HC.out (by unfold graph_every.f; rw [if_pos (by have := HS.out.len; omega)])).mono ?_
        rintro e w3 ⟨v, rfl, hv, hb⟩
        have HB3 := Aside0.mk (below_step HB2.out hb)
        obtain ⟨A2, c2, hv2⟩ := Kd.R_slice hv
        subst hv2
        have HV := Aside0.mk (Kd.R_reads' hv)
        clear hb hv HB2
        rw [upTo_length]
        go_wp2_with (fail)
        have hm := made_any n l1 (upTo l1.length) A1 c1 A2 c2 w3 HS.out.n1 HS.out.len HS.out.fit (which_upTo l1) (by rw [upTo_length]; exact HS.out.len) (Kd.C_below HR.out HB3.out) HC.out HV.out.2.2 HV.out.2.1
        rw [upTo_length] at hm
        refine hm.mono ?_
        clear hm
        rintro e w4 ⟨g, ob, vs2, rfl, hg, hrows, hgg, hob, hb⟩
        have HB4 := Aside0.mk (below_step HB3.out hb)
        have HG := Aside0.mk hg
        have HRW := Aside0.mk hrows
        clear hg hrows hgg hob hb HB3 HV
        go_wp2_with (fail)
        refine (far_made k n a2 l1 (upTo l1.length) R HS.out (which_upTo l1) HRR.out h1 (by omega) g ob _ vs2 _ HG.out HRW.out).mono ?_
        rintro e w5 ⟨v4, v5, v6, v7, rfl, ho, hb⟩
        have HB5 := Aside0.mk (below_step HB4.out hb)
        have HO := Aside0.mk ho
        clear ho hb HB4 HG HRW HRR
        cases R with
        | loop lp => exact absurd H6.out (by simp [boundOf])
        | done st =>
          obtain ⟨bs, bk, bl, rfl, rfl, rfl, rfl, hcs, hck, hcl, hls, hlk, hll, hbs, hbk, hbl⟩ := HO.out
          have zk := (blk_cell hck n).trans (encB_get (by omega))
          have zs := (blk_cell hcs n).trans (encI_get (by omega))
          have H7 : (if st.known.getD n false = true then some (wrap64 (-(st.sum.getD n 0)), true, (0 : Int)) else some ((0 : Int), false, (0 : Int))) = some (r1, r2, r3) := H6.out
          clear HO H6 hcs hck hcl hls hlk hll hbs hbk hbl
          cases hkn : st.known.getD n false with
          | true =>
            rw [hkn] at zk
            rw [if_pos hkn] at H7
            obtain ⟨rfl, rfl, rfl⟩ : wrap64 (-(st.sum.getD n 0)) = r1 ∧ true = r2 ∧ (0 : Int) = r3 := by simpa using H7
            clear hkn H7
            go_wp2
            (try simp only [Exit.inBlock, Exit.then])
            refine bodyPost_ret (results_list (rs := [.tmp 6, .tmp 7, .tmp 8]) rfl (by simp) (.tmp (.tmp (.tmp .nil)))) rfl ?_
            exact ⟨rfl, HB5.out⟩
          | false =>
            rw [hkn] at zk
            rw [if_neg (by rw [hkn]; decide)] at H7
            obtain ⟨rfl, rfl, rfl⟩ : (0 : Int) = r1 ∧ false = r2 ∧ (0 : Int) = r3 := by simpa using H7
            clear hkn H7
            go_wp2
            (try simp only [Exit.inBlock, Exit.then])
            refine bodyPost_ret (results_list (rs := [.tmp 6, .tmp 7, .tmp 8]) rfl (by simp) (.tmp (.tmp (.tmp .nil)))) rfl ?_
            exact ⟨rfl, HB5.out⟩
      · rw [if_neg h5] at H4
        obtain ⟨rfl, rfl, rfl⟩ : (0 : Int) = r1 ∧ false = r2 ∧ s2 = r3 := by simpa using H4
        have hd5 : (s2 != 0) = true := by simpa using h5
        have hd6 : (s2 == 0) = false := by simpa using h5
        clear H3 H4
        go_wp2
        (try simp only [Exit.inBlock, Exit.then])
        refine bodyPost_ret (results_list (rs := [.tmp 6, .tmp 7, .tmp 8]) rfl (by simp) (.tmp (.tmp (.tmp .nil)))) rfl ?_
        exact ⟨rfl, HB2.out⟩
end Go.Proofs.Ytegejpcglabhbaa.G
