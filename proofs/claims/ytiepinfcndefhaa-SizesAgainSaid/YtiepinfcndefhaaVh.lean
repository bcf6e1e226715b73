/- The ways of a closure are short; the program's Loop: walked. No condition. -/
import Derived.Test.YtiepinfcndefhaaVg
namespace Go.Proofs.Ytiepinfcndefhaa.S
open Go.RowKit Go.Proofs.YtiepinfcndefhaaW.PrintWords Go.Proofs.YtiepinfcndefhaaW.PrintLast Go.Proofs.YtiepinfcndefhaaW.PrintMore
set_option linter.unusedVariables false
set_option linter.unusedSimpArgs false

def Ways (all : List Mk) : Prop := ∀ (q : Nat) (m : Mk), all[q]? = some m → m.2.length ≤ q + 1
theorem addM_le {all a : List Mk} {g : Gr} {w : List Int} (h : addM all g w = some a) : all.length ≤ a.length := by
  unfold addM at h
  split at h
  · cases h
    exact Nat.le_refl _
  · split at h
    · cases h
    · cases h
      simp
theorem extL_ways {first : List Gr} {m : Mk} : ∀ (d i : Nat) (all a : List Mk), m.2.length ≤ all.length → Ways all → extL first m d i all = some a → Ways a ∧ all.length ≤ a.length
  | 0, i, all, a, hm, hw, h => by
    cases h
    exact ⟨hw, Nat.le_refl _⟩
  | d + 1, i, all, a, hm, hw, h => by
    simp only [extL] at h
    split at h
    · obtain ⟨b, h1, h2⟩ := Option.bind_eq_some_iff.1 h
      have hb := addM_le h1
      obtain ⟨r1, r2⟩ := extL_ways d (i + 1) b a (by omega) (addM_ways (by simp; omega) hw h1) h2
      exact ⟨r1, by omega⟩
    · exact extL_ways d (i + 1) all a hm hw h
theorem addL_ways {first : List Gr} : ∀ (d i : Nat) (all a : List Mk), Ways all → addL first d i all = some a → Ways a
  | 0, i, all, a, hw, h => by
    cases h
    exact hw
  | d + 1, i, all, a, hw, h => by
    simp only [addL] at h
    obtain ⟨b, h1, h2⟩ := Option.bind_eq_some_iff.1 h
    exact addL_ways d (i + 1) b a (addM_ways (by simp) hw h1) h2
theorem runQ_ways {first : List Gr} : ∀ (d p : Nat) (all a : List Mk), Ways all → runQ first d p all = some a → Ways a
  | 0, p, all, a, hw, h => by
    cases h
    exact hw
  | d + 1, p, all, a, hw, h => by
    simp only [runQ] at h
    split at h
    · rename_i hlt
      obtain ⟨b, h1, h2⟩ := Option.bind_eq_some_iff.1 h
      have e : all.getD p (⟨.empty, .empty, []⟩, []) = all[p] := by rw [List.getD_eq_getElem?_getD, List.getElem?_eq_getElem hlt]; rfl
      rw [e] at h1
      have h3 := hw p all[p] (List.getElem?_eq_getElem hlt)
      exact runQ_ways d (p + 1) b a (extL_ways first.length 0 all b (by omega) hw h1).1 h2
    · cases h
      exact hw
theorem closedQ_ways {first : List Gr} {a : List Mk} (h : closedQ first = some a) : Ways a := by
  obtain ⟨b, h1, h2⟩ := Option.bind_eq_some_iff.1 h
  exact runQ_ways 2001 0 b a (addL_ways first.length 0 [] b (fun q m hq => by cases hq) h1) h2
theorem closedF_ways {l : List Cl} {a : List Mk} {x y z : Int} (h : closedF l x y = (some a, z)) : ∀ m ∈ a, m.2.length ≤ 2000 := by
  have hq : ∃ first, closedQ first = some a := by
    unfold closedF at h
    split at h
    · cases h
    · split at h
      · cases h
      · rename_i first _
        cases hc : closedQ first with
        | none => rw [hc] at h; cases h
        | some b =>
          rw [hc] at h
          cases h
          exact ⟨first, hc⟩
  obtain ⟨first, hq⟩ := hq
  intro m hm
  obtain ⟨i, hi, rfl⟩ := List.mem_iff_getElem.1 hm
  have h1 := closedQ_ways hq i a[i] (List.getElem?_eq_getElem hi)
  have h2 := (closedQ_some hq).1.len
  omega
theorem way_len {a : List Mk} {m : Mk} {b : Bool} (hw : ∀ m ∈ a, m.2.length ≤ 2000) (ht : b = true → m ∈ a ∧ badB m.1 = true) (hf : b = false → m.2 = []) : m.2.length ≤ 1000000 := by
  cases b with
  | true =>
    have := hw m (ht rfl).1
    omega
  | false =>
    rw [hf rfl]
    exact Nat.zero_le _
section
variable {A : Option Addr} {cp : Nat} {l : List Cl} {w : World} (h : kCl.C w A l.length l) (hs : ∀ c ∈ l, c.src.size ≤ maxLen ∧ c.dst.size ≤ maxLen ∧ c.arcs.length ≤ 1000000) (hl : l.length ≤ 9223372036854775807)
include h hs hl
/-- Loop: the way of a bad one, if there is one. -/
theorem loop_some {a : List Mk} (hx : closedF l 4 2 = (some a, 0)) (hal : a.length ≤ 1000000) : Calls Try.prog 15 #[.slice A l.length cp] w fun e w' => ∃ v m, e = .returned (.tuple #[v, .bool (a.any fun m => badB m.1), .int .i64 0]) ∧ IntsOut w' m.2 v ∧ ((a.any fun m => badB m.1) = true → m ∈ a ∧ badB m.1 = true) ∧ ((a.any fun m => badB m.1) = false → m.2 = []) ∧ Below w.heap.size w w' := by
  have HC := Aside0.mk (closed_some (cp := cp) h hs hl hx)
  have HW := Aside0.mk (closedF_ways hx)
  have HAL := Aside0.mk hal
  clear hx h hs hl hal
  obtain ⟨zc, hzc⟩ : ∃ zc, zc = (cG ⟨.empty, .empty, List.replicate 36 0⟩).push (.slice none 0 0) := ⟨_, rfl⟩
  have HZR8 := Aside0.mk (fun w => show (zeroValue 83).run Try.prog w = .ok (.agg zc) w from by rw [hzc]; exact zero83_run w)
  have HZS8 := Aside0.mk (show zc.size = 39 by rw [hzc]; simp [cG])
  clear hzc
  go_enter Try.func15, Try.ntmps15
  go_wp2_with (first | (go_at_call 39; refine HC.out.mono ?_; rintro e w5 ⟨A5, c5, rfl, hc5, hb5⟩; have HC5 := Aside0.mk hc5; have HB5 := Aside0.mk hb5; clear hb5 hc5) | (go_at_call 40; refine (bad_calls2 A5 c5 a w5 HC5.out (by have := HAL.out; omega)).mono ?_; rintro e w6 ⟨cs6, v6, m6, rfl, hm6, hv6, hi6, ht6, hf6, hb6⟩; obtain ⟨A6, c6, ev6, hr6⟩ := hi6; subst ev6; have HM6 := Aside0.mk hm6; have HV6 := Aside0.mk hv6; have HT6 := Aside0.mk ht6; have HF6 := Aside0.mk hf6; have HB6 := Aside0.mk hb6; have y38 := blk_at (blk_new w6 (.cells cs6 83)) hv6; have HLW := Aside0.mk (way_len HW.out ht6 hf6); have HR6 := Aside0.mk (Kd.C_below hr6 (below_step hb6 (below_alloc (Below.refl _ _) (.cells cs6 83)))); clear hb6 hm6 hv6 ht6 hf6 hr6) | ((with_reducible refine gate_alloc (t := 83) rfl ?_); refine alloc_zero rfl rfl zc HZR8.out ?_) | ((with_reducible refine gate_store (t := 83) (p := 7) rfl ?_); refine store_last rfl rfl rfl _ 83 zc cs6 (by rfl) (by rfl) rfl (by rw [HM6.out.size]; kernel_rfl) (HZS8.out.trans HM6.out.size.symm) HM6.out.one ?_) | (go_at_call 42; refine (clone_calls A6 c6 m6.2 _ HR6.out HLW.out).mono ?_; rintro e w7 ⟨v7, rfl, hi7, hb7⟩; have HI7 := Aside0.mk hi7; have HB7 := Aside0.mk hb7; clear hi7 hb7 y38))
  go_ret3
  exact ⟨_, m6, rfl, HI7.out, HT6.out, HF6.out, below_step (below_step HB5.out (below_step HB6.out (below_alloc (Below.refl _ _) _))) HB7.out⟩
theorem loop_none {x : Int} (hx : closedF l 4 2 = (none, x)) (hne : x ≠ 0) : Calls Try.prog 15 #[.slice A l.length cp] w fun e w' => e = .returned (.tuple #[.slice none 0 0, .bool false, .int .i64 x]) ∧ Below w.heap.size w w' := by
  have HC := Aside0.mk (closed_none (cp := cp) h hs hl hx)
  have hn : (x != 0) = true := by simpa using hne
  clear hx h hs hl
  go_enter Try.func15, Try.ntmps15
  go_wp2_with (go_at_call 39; refine HC.out.mono ?_; rintro e w5 ⟨rfl, hb5⟩; have HB5 := Aside0.mk hb5; clear hb5)
  go_ret3
  exact ⟨rfl, HB5.out⟩
end
end Go.Proofs.Ytiepinfcndefhaa.S
