/- The reference's place: the walk. No condition. -/
import Derived.Test.YtiepinfcndefhaaVa
import Derived.Test.YtiepinfcndefhaaUd
namespace Go.Proofs.Ytiepinfcndefhaa.S
open Go.RowKit Go.Proofs.YtiepinfcndefhaaW.PrintWords Go.Proofs.YtiepinfcndefhaaW.PrintLast Go.Proofs.YtiepinfcndefhaaW.PrintMore
set_option linter.unusedVariables false
set_option linter.unusedSimpArgs false

/-- A place in a row at which a call may be put. -/
def Low (l : List Cl) (c : Cl) (k : Nat) : Prop := ∀ x, 0 < k → l[k - 1]? = some x → lssC x c = true
def High (l : List Cl) (c : Cl) (k : Nat) : Prop := ∀ x, l[k]? = some x → lssC x c = false
set_option maxHeartbeats 4000000 in
set_option maxRecDepth 100000 in
theorem place_calls (A C : Option Addr) (cp cpc : Nat) (l : List Cl) (c : Cl) (w : World) (hl : kCl.C w A l.length l) (hlen : l.length ≤ 1000000) (hc : kAc.C w C c.arcs.length c.arcs) :
    Calls Try.prog 76 #[.slice A l.length cp, .agg #[.string c.src, .string c.dst, .slice C c.arcs.length cpc]] w fun e w' => ∃ k : Nat, e = .returned (.int .i64 (k : Int)) ∧ k ≤ l.length ∧ Low l c k ∧ High l c k ∧ Below w.heap.size w w' := by
  have HL := Aside0.mk hl
  have HLN := Aside0.mk hlen
  have HCC := Aside0.mk hc
  have HB0 := Aside0.mk (show Below w.heap.size w (w.alloc (.cells #[.string c.src, .string c.dst, .slice C c.arcs.length cpc] 34)) from below_alloc (Below.refl _ _) _)
  have HC0 : Aside0 (Blk (w.alloc (.cells #[.string c.src, .string c.dst, .slice C c.arcs.length cpc] 34)) w.heap.size c C cpc) := ⟨blk_new w _⟩
  clear hl hlen hc
  go_enter Try.func76, Try.ntmps76
  go_wp2
  generalize w.alloc (.cells #[.string c.src, .string c.dst, .slice C c.arcs.length cpc] 34) = W0 at HB0 HC0 ⊢
  have HBW := Aside0.mk (Below.refl W0.heap.size W0)
  go_loopg [5, 6] l.length (fun kq v5 v6 w' => ∃ (f t : Nat), v5 = .int .i64 (f : Int) ∧ v6 = .int .i64 (t : Int) ∧ Aside0 (kq + f = t) ∧ Aside0 (t ≤ l.length) ∧ Aside0 (Low l c f) ∧ Aside0 (High l c t) ∧ Aside0 (Below W0.heap.size W0 w'))
  case atStart => exact ⟨0, l.length, rfl, rfl, ⟨by omega⟩, ⟨Nat.le_refl _⟩, ⟨fun x h => absurd h (by omega)⟩, ⟨fun x h => by rw [List.getElem?_eq_none (Nat.le_refl _)] at h; cases h⟩, HBW⟩
  case round =>
    clear HBW
    obtain ⟨f, t, rfl, rfl, HK, HT, HLO, HHI, HBW⟩ := hrel
    by_cases hlt : f < t
    · have hdx : decide ((f : Int) < (t : Int)) = true := decide_eq_true (by omega)
      obtain ⟨k, hk⟩ : ∃ k, k = (f + t) / 2 := ⟨_, rfl⟩
      have hb1 : wrap64 ((f : Int) + (t : Int)) = (f : Int) + (t : Int) := by have := HLN.out; have := HT.out; unfold wrap64; omega
      have hq : Int.tdiv ((f : Int) + (t : Int)) 2 = (k : Int) := by rw [Int.tdiv_eq_ediv_of_nonneg (by omega)]; omega
      have hb2 : wrap64 (k : Int) = (k : Int) := by have := HLN.out; have := HT.out; unfold wrap64; omega
      have hb3 : wrap64 ((k : Int) + 1) = (k : Int) + 1 := by have := HLN.out; have := HT.out; unfold wrap64; omega
      have hkl : k < l.length := by have := HT.out; omega
      have hk0 : (k : Int) < (l.length : Int) := by omega
      have hf : f ≤ k := by omega
      have ht : k < t := by omega
      have HF := Aside0.mk hf
      have HT2 := Aside0.mk ht
      have HHK := Aside0.mk hk
      have HB2 := Aside0.mk hb2
      have HKL := Aside0.mk hkl
      have HC := Aside0.mk (HC0.out.go HBW.out)
      obtain ⟨ad, X, xc, ea, hxc, hx, hqa⟩ := cl_get2 (Kd.C_below HL.out (below_step HB0.out HBW.out)) k hkl
      have HEX := Aside0.mk (show l[k]? = some l[k] from List.getElem?_eq_getElem hkl)
      have HLE := Aside0.mk (fun (W : World) (h : Below wr.heap.size wr W) => less_calls X C xc cpc l[k] c W (Kd.C_below hx h) (Kd.C_below HCC.out (below_step (below_step HB0.out HBW.out) h)))
      generalize l[k] = x at hqa HEX HLE
      obtain ⟨xs, xd, xa⟩ := x
      have HQA := Aside0.mk hqa
      dsimp only at HQA HLE
      subst ea
      clear hqa hxc hx hkl hk hf ht
      go_wp2
      clear hdx
      refine start_ (n := 6) (S := fun w' => Below wr.heap.size wr w') (ds := []) #[false, false, false, false, false, false] (by kernel_rfl) rfl rfl (below_drew1 (Below.refl _ _)) (fun hHeld => ?_)
      refine pure_ (i := 0) (N := some 17) (v := ?_) (a' := ?_) #[true, false, false, false, false, false] rfl rfl (by kernel_rfl) (fun _ _ _ h => h) (Or.inl ⟨by rfl, ?_⟩) ?_ ?_
      rotate_left
      · intro w'
        go_simp
        with_reducible rfl
      rotate_left
      · simp only [Act.put, List.setIfInBounds_toArray, List.set_cons_zero, List.set_cons_succ, i64_w, i32_w]
        rfl
      refine pure_ (i := 1) (N := some 18) (v := ?_) (a' := ?_) #[true, true, false, false, false, false] rfl rfl (by kernel_rfl) (fun _ _ _ h => h) (Or.inl ⟨by rfl, ?_⟩) ?_ ?_
      rotate_left
      · intro w'
        go_simp
        with_reducible rfl
      rotate_left
      · simp only [Act.put, List.setIfInBounds_toArray, List.set_cons_zero, List.set_cons_succ, i64_w, i32_w]
        rfl
      refine pure_ (i := 2) (N := some 19) (v := ?_) (a' := ?_) #[true, true, true, false, false, false] rfl rfl (by kernel_rfl) (fun _ _ _ h => h) (Or.inl ⟨by rfl, ?_⟩) ?_ ?_
      rotate_left
      · intro w'
        go_simp
        with_reducible rfl
      rotate_left
      · simp only [Act.put, List.setIfInBounds_toArray, List.set_cons_zero, List.set_cons_succ, i64_w, i32_w]
        rfl
      refine take_ (i := 3) (N := some 20) (v := ?_) (a' := ?_) #[true, true, true, true, false, false] rfl rfl (by kernel_rfl) (fun _ _ _ h => h) (Or.inl ⟨by rfl, ?_⟩) hHeld ?_ ?_
      rotate_left
      · rintro w' s0
        have q := HQA.out w' s0
        obtain ⟨q0, q1, q2⟩ := q
        go_simp
        with_reducible rfl
      rotate_left
      · simp only [Act.put, List.setIfInBounds_toArray, List.set_cons_zero, List.set_cons_succ, i64_w, i32_w]
        rfl
      refine take_ (i := 4) (N := some 21) (v := ?_) (a' := ?_) #[true, true, true, true, true, false] rfl rfl (by kernel_rfl) (fun _ _ _ h => h) (Or.inl ⟨by rfl, ?_⟩) hHeld ?_ ?_
      rotate_left
      · rintro w' s0
        obtain ⟨k0, k1, k2⟩ := Blk.cells (HC.out.go s0)
        go_simp
        with_reducible rfl
      rotate_left
      · simp only [Act.put, List.setIfInBounds_toArray, List.set_cons_zero, List.set_cons_succ, i64_w, i32_w]
        rfl
      refine one_ (i := 5) (N := some 22) #[true, true, true, true, true, true] rfl rfl (by kernel_rfl) (by decide) (fun K hK => ?_)
      refine goes_ Try.func29 (by kernel_rfl) rfl #[.agg #[.string xs, .string xd, .slice X xa.length xc], .agg #[.string c.src, .string c.dst, .slice C c.arcs.length cpc]] (by rfl) rfl rfl (by (try simp only [List.map_toArray, List.map_cons, List.map_nil]); first | done | rfl) ?_
      refine (HLE.out _ hHeld).mono ?_
      rintro e2 w3 ⟨rfl, hb3⟩
      refine ⟨_, rfl, ?_⟩
      have hB := below_step hHeld hb3
      refine hK.out _ _ hB (fun _ => ?_)
      clear hK K hHeld hb3
      have hHeld := hB
      clear hB
      refine norm_ (a' := ?_) ?_ ?_
      rotate_left
      · show Act.put _ (some 22) _ = _
        simp only [Act.put, List.setIfInBounds_toArray, List.set_cons_zero, List.set_cons_succ, i64_w, i32_w]
        rfl
      refine done_ (by kernel_rfl) ?_
      have HH := Aside0.mk (below_step HBW.out hHeld)
      generalize hbq : lssC ⟨xs, xd, xa⟩ c = bq at HLE
      have HBQ := Aside0.mk hbq
      clear hbq
      cases bq with
      | true =>
        go_wp2
        go_roundg (t - (k + 1))
        case measure => have := HK.out; have := HF.out; omega
        case rel => exact ⟨k + 1, t, by first | go_num | (rw [HB2.out]; go_num), rfl, ⟨by have := HT2.out; omega⟩, HT, ⟨fun y _ hy => by rw [Nat.add_sub_cancel, HEX.out] at hy; cases hy; exact HBQ.out⟩, HHI, HH⟩
      | false =>
        go_wp2
        go_roundg (k - f)
        case measure => have := HK.out; have := HT2.out; omega
        case rel => exact ⟨f, k, rfl, by rw [HB2.out], ⟨by have := HF.out; omega⟩, ⟨Nat.le_of_lt HKL.out⟩, HLO, ⟨fun y hy => by rw [HEX.out] at hy; cases hy; exact HBQ.out⟩, HH⟩
    · have hdx : decide ((f : Int) < (t : Int)) = false := decide_eq_false (by omega)
      have e : f = t := by have := HK.out; omega
      go_wp2
      go_ret
      exact ⟨f, rfl, by have := HT.out; omega, HLO.out, by rw [e]; exact HHI.out, below_step HB0.out HBW.out⟩
end Go.Proofs.Ytiepinfcndefhaa.S
