/- Is a call, are calls, larger than is played: the walks. No condition. -/
import Derived.Test.YtiepinfcndefhaaSf
namespace Go.Proofs.Ytiepinfcndefhaa.S
open Go.RowKit Go.Proofs.YtiepinfcndefhaaW.PrintWords Go.Proofs.YtiepinfcndefhaaW.PrintLast Go.Proofs.YtiepinfcndefhaaW.PrintMore
set_option linter.unusedVariables false
set_option linter.unusedSimpArgs false

def kStr : Kd ByteArray := Kd.scalar Value.string (fun _ => rfl)
/-- A call's kind. -/
def kCl : Kd Cl := Kd.iso (Kd.pair kStr (Kd.pair kStr (Kd.slice 24 kAc))) (fun x : Cl => (x.src, x.dst, x.arcs))
theorem cl_get {w : World} {A : Option Addr} {l : List Cl} (h : kCl.C w A l.length l) (i : Nat) (hi : i < l.length) : ∃ ad A1 cp, A = some ad ∧ w.cell? (ad.add (i * 3)) = some (.string l[i].src) ∧ w.cell? ⟨(ad.add (i * 3)).block, (ad.add (i * 3)).off + 1, none⟩ = some (.string l[i].dst) ∧
    w.cell? ⟨(ad.add (i * 3)).block, (ad.add (i * 3)).off + 2, none⟩ = some (.slice A1 l[i].arcs.length cp) ∧ kAc.C w A1 l[i].arcs.length l[i].arcs := by
  obtain ⟨ad, c, e, _, hk, hc⟩ := Kd.C_get h (⟨.empty, .empty, []⟩ : Cl) (i : Int) (by omega) (by omega)
  rw [Int.toNat_natCast] at hk hc
  rw [show l.getD i (⟨.empty, .empty, []⟩ : Cl) = l[i] by rw [List.getD_eq_getElem?_getD, List.getElem?_eq_getElem hi]; rfl] at hk
  obtain ⟨c0, c1, rfl, rfl, c2, c3, rfl, rfl, A1, cp, rfl, _, hr⟩ := hk
  have e1 : ad.add (i * 3 + 1) = ⟨(ad.add (i * 3)).block, (ad.add (i * 3)).off + 1, none⟩ := (Addr.add_add ad (i * 3) 1).symm.trans (by simp [Addr.add])
  have e2 : ad.add (i * 3 + 2) = ⟨(ad.add (i * 3)).block, (ad.add (i * 3)).off + 2, none⟩ := (Addr.add_add ad (i * 3) 2).symm.trans (by simp [Addr.add])
  exact ⟨ad, A1, cp, e, hc 0 _ rfl, by rw [← e1]; exact hc 1 _ rfl, by rw [← e2]; exact hc 2 _ rfl, hr⟩
def bigC (c : Cl) : Bool := decide (100 < c.src.size) || decide (100 < c.dst.size) || decide (100 < c.arcs.length)
theorem bigCall_calls (A : Option Addr) (cp : Nat) (c : Cl) (w : World) :
    Calls Try.prog 17 #[.agg #[.string c.src, .string c.dst, .slice A c.arcs.length cp]] w fun e w' => e = .returned (.bool (bigC c)) ∧ Below w.heap.size w w' := by
  obtain ⟨src, dst, arcs⟩ := c
  have HB := Aside0.mk (below_alloc (Below.refl w.heap.size w) (.cells #[.string src, .string dst, .slice A arcs.length cp] 34))
  go_enter Try.func17, Try.ntmps17
  by_cases h1 : 100 < src.size
  · have HR := Aside0.mk (show bigC ⟨src, dst, arcs⟩ = true by simp [bigC, h1])
    have d1 : decide ((100 : Int) < (src.size : Int)) = true := decide_eq_true (by omega)
    clear h1
    go_wp2
    go_ret
    exact ⟨by rw [HR.out]; rfl, HB.out⟩
  · have d1 : decide ((100 : Int) < (src.size : Int)) = false := decide_eq_false (by omega)
    by_cases h2 : 100 < dst.size
    · have HR := Aside0.mk (show bigC ⟨src, dst, arcs⟩ = true by simp [bigC, h1, h2])
      have d2 : decide ((100 : Int) < (dst.size : Int)) = true := decide_eq_true (by omega)
      clear h1 h2
      go_wp2
      go_ret
      exact ⟨by rw [HR.out]; rfl, HB.out⟩
    · have d2 : decide ((100 : Int) < (dst.size : Int)) = false := decide_eq_false (by omega)
      have HR := Aside0.mk (show bigC ⟨src, dst, arcs⟩ = decide ((100 : Int) < (arcs.length : Int)) by
        simp only [bigC, decide_eq_false h1, decide_eq_false h2, Bool.false_or]
        by_cases h3 : 100 < arcs.length
        · rw [decide_eq_true h3, decide_eq_true (by omega)]
        · rw [decide_eq_false h3, decide_eq_false (by omega)])
      clear h1 h2
      go_wp2
      go_ret
      exact ⟨by rw [HR.out]; rfl, HB.out⟩
def bigL (l : List Cl) (most : Int) : Bool := decide (most < (l.length : Int)) || l.any bigC
theorem big_calls (A : Option Addr) (cp : Nat) (l : List Cl) (most : Int) (w : World) (h : kCl.C w A l.length l) (hl : l.length ≤ 9223372036854775807) :
    Calls Try.prog 11 #[.slice A l.length cp, .int .i64 most] w fun e w' => e = .returned (.bool (bigL l most)) ∧ Below w.heap.size w w' := by
  have HC := Aside0.mk h
  have HLL := Aside0.mk hl
  clear h hl
  go_enter Try.func11, Try.ntmps11
  by_cases h0 : most < (l.length : Int)
  · have HR := Aside0.mk (show bigL l most = true by simp [bigL, h0])
    have d0 : decide (most < (l.length : Int)) = true := decide_eq_true h0
    clear h0
    go_wp2
    go_ret
    exact ⟨by rw [HR.out]; rfl, Below.refl _ _⟩
  · have HR := Aside0.mk (show bigL l most = l.any bigC by simp [bigL, h0])
    have d0 : decide (most < (l.length : Int)) = false := decide_eq_false h0
    clear h0
    go_wp2
    clear d0
    go_loopg [5] l.length (fun kq v5 w' => ∃ (i : Nat), v5 = .int .i64 (i : Int) ∧ Aside0 (kq + i = l.length) ∧ Aside0 (l.any bigC = (l.drop i).any bigC) ∧ Aside0 (Below w.heap.size w w'))
    case atStart => exact ⟨0, rfl, ⟨rfl⟩, ⟨rfl⟩, ⟨Below.refl _ _⟩⟩
    case round =>
      obtain ⟨i, rfl, HK, HN, HB⟩ := hrel
      by_cases hlt : i < l.length
      · have hdx : decide ((i : Int) < (l.length : Int)) = true := decide_eq_true (by omega)
        have hi0 : (i : Int) < (l.length : Int) := by omega
        obtain ⟨ad, A1, c1, e, q0, q1, q2, _⟩ := cl_get (Kd.C_below HC.out HB.out) i hlt
        subst e
        have HX := Aside0.mk (fun w' => bigCall_calls A1 c1 l[i] w')
        have HN2 := Aside0.mk (show (l.drop i).any bigC = (bigC l[i] || (l.drop (i + 1)).any bigC) by rw [List.drop_eq_getElem_cons hlt]; rfl)
        have hib : wrap64 ((i : Int) + 1) = (i : Int) + 1 := by have := HLL.out; unfold wrap64; omega
        generalize l[i].src = x1 at q0 HX
        generalize l[i].dst = x2 at q1 HX
        generalize l[i].arcs.length = x3 at q2 HX
        generalize bigC l[i] = bb at HX HN2
        cases bb with
        | true =>
          go_wp2_with (go_at_call 17; refine (HX.out _).mono ?_; rintro e w5 ⟨rfl, hb5⟩; have HB2 := Aside0.mk (below_step HB.out hb5); clear hb5)
          go_ret
          exact ⟨by rw [HR.out, HN.out, HN2.out]; rfl, HB2.out⟩
        | false =>
          go_wp2_with (go_at_call 17; refine (HX.out _).mono ?_; rintro e w5 ⟨rfl, hb5⟩; have HB2 := Aside0.mk (below_step HB.out hb5); clear hb5)
          go_roundg (l.length - i - 1)
          case measure => have := HK.out; omega
          case rel => exact ⟨i + 1, by go_num, ⟨by have := HK.out; omega⟩, ⟨by rw [HN.out, HN2.out, Bool.false_or]⟩, HB2⟩
      · have hdx : decide ((i : Int) < (l.length : Int)) = false := decide_eq_false (by omega)
        have HN3 := Aside0.mk (show (l.drop i).any bigC = false by rw [List.drop_eq_nil_of_le (by omega)]; rfl)
        go_wp2
        go_ret
        exact ⟨by rw [HR.out, HN.out, HN3.out]; rfl, HB.out⟩
end Go.Proofs.Ytiepinfcndefhaa.S
