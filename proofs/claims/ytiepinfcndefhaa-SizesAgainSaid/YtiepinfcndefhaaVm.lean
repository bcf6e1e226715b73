/- The reference's Terminates behind its Closure: the walk. No condition. -/
import Derived.Test.YtiepinfcndefhaaVl
namespace Go.Proofs.Ytiepinfcndefhaa.S
open Go.RowKit Go.Proofs.YtiepinfcndefhaaW.PrintWords Go.Proofs.YtiepinfcndefhaaW.PrintLast Go.Proofs.YtiepinfcndefhaaW.PrintMore
set_option linter.unusedVariables false
set_option linter.unusedSimpArgs false

/-- What Closure hands over, where there is one. -/
def ROut (l : List Cl) (a : List Mk) (w : World) (e : Ending) (w' : World) : Prop := ∃ A cp S, e = .returned (.tuple #[.slice A S.length cp, .int .i64 0]) ∧ kCl.C w' A S.length S ∧ S.length ≤ 1000000 ∧ (∀ c, c ∈ S ↔ ∃ m ∈ a, c = callG m.1) ∧ Ord S ∧ Below w.heap.size w w'
theorem any_step {S : List Cl} {i : Nat} (hi : i < S.length) : (S.drop i).any rbadF = (rbadF S[i] || (S.drop (i + 1)).any rbadF) := by
  rw [List.drop_eq_getElem_cons hi, List.any_cons]
set_option maxHeartbeats 4000000 in
set_option maxRecDepth 100000 in
theorem rterm_some {A : Option Addr} {cp : Nat} {l : List Cl} {w : World} {a : List Mk} (h : Calls Try.prog 27 #[.slice A l.length cp] w (ROut l a w)) :
    Calls Try.prog 14 #[.slice A l.length cp] w fun e w' => ∃ S : List Cl, (∀ c, c ∈ S ↔ ∃ m ∈ a, c = callG m.1) ∧ e = .returned (.tuple #[.bool (!S.any rbadF), .int .i64 0]) ∧ Below w.heap.size w w' := by
  have HC := Aside0.mk h
  clear h
  go_enter Try.func14, Try.ntmps14
  go_wp2_with (go_at_call 27; refine HC.out.mono ?_; rintro e w5 ⟨A5, c5, S, rfl, hc5, hl5, hm5, _, hb5⟩; have HC5 := Aside0.mk hc5; have HL5 := Aside0.mk hl5; have HM5 := Aside0.mk hm5; have HB5 := Aside0.mk hb5; clear hc5 hl5 hm5 hb5)
  go_loopg [6] S.length (fun kq v6 w' => ∃ (i : Nat), v6 = .int .i64 (i : Int) ∧ Aside0 (kq + i = S.length) ∧ Aside0 (S.any rbadF = (S.drop i).any rbadF) ∧ Aside0 (Below w5.heap.size w5 w'))
  case atStart => exact ⟨0, rfl, ⟨rfl⟩, ⟨rfl⟩, ⟨Below.refl _ _⟩⟩
  case round =>
    obtain ⟨i, rfl, HK, HA, HBW⟩ := hrel
    by_cases hlt : i < S.length
    · have hdx : decide ((i : Int) < (S.length : Int)) = true := decide_eq_true (by omega)
      have hi0 : (i : Int) < (S.length : Int) := by omega
      have hib : wrap64 ((i : Int) + 1) = (i : Int) + 1 := by have := HL5.out; unfold wrap64; omega
      have HLT := Aside0.mk hlt
      obtain ⟨ad, X, xc, ea, hxc, hx, hqa⟩ := cl_get2 (Kd.C_below HC5.out HBW.out) i hlt
      have HA2 := Aside0.mk (HA.out.trans (any_step hlt))
      have hok : S[i].arcs.all okA = true := by
        obtain ⟨m, _, e⟩ := (HM5.out S[i]).1 (List.getElem_mem hlt)
        rw [e]
        exact arcsN_ok _ 36 (Nat.le_refl _)
      have HBD := Aside0.mk (rbad_calls X xc S[i] wr hx hok)
      obtain ⟨z0, z1, z2⟩ := hqa wr (Below.refl _ _)
      subst ea
      clear hqa hxc hx hok
      generalize S[i] = c at z0 z1 z2 HA2 HBD
      generalize hbq : rbadF c = bq at HA2 HBD
      clear hbq
      cases bq with
      | true =>
        go_wp2_with (go_at_call 41; refine HBD.out.mono ?_; rintro e w9 ⟨rfl, hb9⟩; have HB9 := Aside0.mk (below_step HBW.out hb9); clear hb9)
        go_ret2
        exact ⟨S, HM5.out, by rw [HA2.out]; rfl, below_step HB5.out HB9.out⟩
      | false =>
        go_wp2_with (go_at_call 41; refine HBD.out.mono ?_; rintro e w9 ⟨rfl, hb9⟩; have HB9 := Aside0.mk (below_step HBW.out hb9); clear hb9)
        go_roundg (S.length - i - 1)
        case measure => have := HK.out; omega
        case rel => exact ⟨i + 1, by go_num, ⟨by have := HK.out; have := HLT.out; omega⟩, ⟨HA2.out.trans (Bool.false_or _)⟩, HB9⟩
    · have hdx : decide ((i : Int) < (S.length : Int)) = false := decide_eq_false (by omega)
      have HE := Aside0.mk (HA.out.trans (show (S.drop i).any rbadF = false by rw [List.drop_eq_nil_of_le (by omega)]; rfl))
      go_wp2
      go_ret2
      exact ⟨S, HM5.out, by rw [HE.out]; rfl, below_step HB5.out HBW.out⟩
theorem rterm_none {A : Option Addr} {cp : Nat} {l : List Cl} {w : World} {x : Int} (hne : x ≠ 0) (h : Calls Try.prog 27 #[.slice A l.length cp] w fun e w' => e = .returned (.tuple #[.slice none 0 0, .int .i64 x]) ∧ Below w.heap.size w w') :
    Calls Try.prog 14 #[.slice A l.length cp] w fun e w' => e = .returned (.tuple #[.bool false, .int .i64 x]) ∧ Below w.heap.size w w' := by
  have HC := Aside0.mk h
  have hn : (x != 0) = true := by simpa using hne
  clear h
  go_enter Try.func14, Try.ntmps14
  go_wp2_with (go_at_call 27; refine HC.out.mono ?_; rintro e w5 ⟨rfl, hb5⟩; have HB5 := Aside0.mk hb5; clear hb5)
  go_ret2
  exact ⟨rfl, HB5.out⟩
/-- The two ways of asking for a bad one are one. -/
theorem any_same {S : List Cl} {a : List Mk} (hm : ∀ c, c ∈ S ↔ ∃ m ∈ a, c = callG m.1) (ht : ∀ m ∈ a, GTab m.1) : S.any rbadF = a.any fun m => badB m.1 := by
  rw [Bool.eq_iff_iff, List.any_eq_true, List.any_eq_true]
  constructor
  · rintro ⟨c, hc, hb⟩
    obtain ⟨m, h1, rfl⟩ := (hm c).1 hc
    exact ⟨m, h1, by rw [← rbad_eq (ht m h1)]; exact hb⟩
  · rintro ⟨m, h1, hb⟩
    exact ⟨callG m.1, (hm _).2 ⟨m, h1, rfl⟩, by rw [rbad_eq (ht m h1)]; exact hb⟩
end Go.Proofs.Ytiepinfcndefhaa.S
