/- A part of this claim's proof: texts of its author, and printed ones, packed by a program of its author's. -/
import Derived.Test.YtegejpcglabhbaaCe17
import Derived.Test.YtegejpcglabhbaaCe18
namespace Go.Proofs.Ytegejpcglabhbaa.G
open Go.RowKit Go.Proofs.YtegejpcglabhbaaW.PrintWords Go.Proofs.YtegejpcglabhbaaW.PrintLast Go.Proofs.YtegejpcglabhbaaW.PrintMore
set_option linter.unusedVariables false
set_option linter.unusedSimpArgs false
def tightE (vals : List Int) (e : S108) : Prop := vals.getD e.f0.toNat 0 + e.f2 = vals.getD e.f1.toNat 0
def edgeR (L : List S108) (vals : List Int) (x y : Nat) : Prop := ∃ e ∈ L, e.f0 = x ∧ e.f1 = y ∧ tightE vals e
structure EOk (n : Nat) (L : List S108) (vals : List Int) : Prop where
 len : L.length ≤ 900000
 n1 : n ≤ 1200
 vlen : vals.length = n
 vals : ∀ v, 0 ≤ vals.getD v 0 ∧ vals.getD v 0 ≤ 1200000
 edge : ∀ e ∈ L, 0 ≤ e.f0 ∧ e.f0 ≤ n ∧ 0 ≤ e.f1 ∧ e.f1 ≤ n ∧ -1000000 ≤ e.f2 ∧ e.f2 ≤ 1000000
theorem rd108_get {l : List S108} {i : Nat} (h : i < l.length) : rd_T108 l (i : Int) = l[i] := by
 unfold rd_T108
 rw [Int.toNat_natCast, List.getD_eq_getElem?_getD, List.getElem?_eq_getElem h]
 rfl
theorem step_j2 {n : Nat} {L : List S108} {vals : List Int} (h : EOk n L vals) {i : Nat} (hi : i < L.length) {seen : List Bool} (hs : seen.length = n + 1) (b : Bool) {r : List Bool}
  (h1 : seenAt seen L[i].f0.toNat → ¬ seenAt seen L[i].f1.toNat → tightE vals L[i] → Ev (fun k => tenetref02_reached.l1 k (n : Int) L vals (seen.set L[i].f1.toNat true) true ((i + 1 : Nat) : Int)) r)
  (h2 : ¬ (seenAt seen L[i].f0.toNat ∧ ¬ seenAt seen L[i].f1.toNat ∧ tightE vals L[i]) → Ev (fun k => tenetref02_reached.l1 k (n : Int) L vals seen b ((i + 1 : Nat) : Int)) r) :
  Ev (fun k => tenetref02_reached.l1 k (n : Int) L vals seen b (i : Int)) r := by
 obtain ⟨q1, q2, q3, q4, q5, q6⟩ := h.edge _ (List.getElem_mem hi)
 have hv := h.vlen
 have hn := h.n1
 have hl := h.len
 have hva := h.vals L[i].f0.toNat
 have e0 : ∀ x : Int, rd vals x = vals.getD x.toNat 0 := fun x => rfl
 have eo : ∀ x : Int, rdOf false seen x = seen.getD x.toNat false := fun x => rfl
 have hj : Ev (fun k => tenetref02_reached.j2 k (n : Int) L vals seen b (i : Int) (vals.getD L[i].f0.toNat 0) 0) r := by
  refine Ev.step (fun k => tenetref02_reached.j2.eq_2 ..) ?_
  rw [rd108_get hi, eo, eo, e0, show wrap64 (vals.getD L[i].f0.toNat 0 + L[i].f2) = vals.getD L[i].f0.toNat 0 + L[i].f2 by unfold wrap64; omega, w64n _ (by omega)]
  have core : ∀ (T : Int), T = vals.getD L[i].f1.toNat 0 → Ev (fun k => if seen.getD L[i].f0.toNat false = true then (if L[i].f1 < (seen.length : Int) then (if seen.getD L[i].f1.toNat false = true then tenetref02_reached.l1 k (n : Int) L vals seen b ((i + 1 : Nat) : Int) else (if vals.getD L[i].f0.toNat 0 + L[i].f2 = T then tenetref02_reached.l1 k (n : Int) L vals (seen.set L[i].f1.toNat true) true ((i + 1 : Nat) : Int) else tenetref02_reached.l1 k (n : Int) L vals seen b ((i + 1 : Nat) : Int))) else none) else tenetref02_reached.l1 k (n : Int) L vals seen b ((i + 1 : Nat) : Int)) r := by
   intro T hT
   refine Ev.both (fun a1 => Ev.pos (by omega) (Ev.both (fun a2 => h2 fun hc => hc.2.1 a2) (fun a2 => Ev.both (fun a3 => h1 a1 a2 (by unfold tightE; rw [a3, hT])) (fun a3 => h2 fun hc => a3 (by rw [hT]; exact hc.2.2))))) (fun a1 => h2 fun hc => a1 hc.1)
  refine Ev.pos (by omega) (Ev.pos (by omega) (Ev.both (fun a => Ev.pos (by omega) (Ev.pos (by omega) (Ev.pos (by omega) (Ev.pos (by omega) (core _ rfl))))) (fun a => Ev.pos (by omega) (Ev.pos (by omega) ?_))))
  have hz : vals.getD L[i].f1.toNat 0 = 0 := getD_ge (by omega)
  have := core 0 hz.symm
  refine Ev.congr (fun k => ?_) this
  simp only [if_pos q3]
 refine Ev.step (fun k => tenetref02_reached.l1.eq_2 ..) (Ev.pos (by omega) (Ev.pos (by omega) ?_))
 rw [rd108_get hi, e0]
 refine Ev.both (fun a => Ev.pos (by omega) (Ev.pos (by omega) hj)) (fun a => ?_)
 have hz : vals.getD L[i].f0.toNat 0 = 0 := getD_ge (by omega)
 rw [hz] at hj
 exact hj
structure Rst (n : Nat) (L : List S108) (vals : List Int) (s : Nat) (seen : List Bool) : Prop where
 len : seen.length = n + 1
 sound : ∀ x, seenAt seen x → Lead (edgeR L vals) s x
 start : seenAt seen s
def RLed (n : Nat) (L : List S108) (vals : List Int) (s : Nat) (r : List Bool) : Prop := r.length = n + 1 ∧ ∀ x, seenAt r x ↔ Lead (edgeR L vals) s x
def quietE (vals : List Int) (seen : List Bool) (e : S108) : Prop := ¬ (seenAt seen e.f0.toNat ∧ ¬ seenAt seen e.f1.toNat ∧ tightE vals e)
theorem rreached_l0 {n : Nat} {L : List S108} {vals : List Int} (h : EOk n L vals) (s : Nat) : ∀ (M : Nat) (seen : List Bool), seen.count false < M → Rst n L vals s seen →
  ∃ r, Ev (fun k => tenetref02_reached.l0 k (n : Int) L vals seen true) r ∧ RLed n L vals s r := by
 intro M
 induction M with
 | zero => intro seen hM; omega
 | succ M ih =>
  intro seen hM hR
  have hl := h.len
  have inner : ∀ (d i : Nat) (sn : List Bool) (b : Bool), d + i = L.length → Rst n L vals s sn → (b = true → sn.count false < M) → sn.count false < M + 1 → (b = false → ∀ e ∈ L.take i, quietE vals sn e) →
    ∃ r, Ev (fun k => tenetref02_reached.l1 k (n : Int) L vals sn b (i : Int)) r ∧ RLed n L vals s r := by
   intro d
   induction d with
   | zero =>
    intro i sn b hd hS hb1 hb2 hb3
    cases b with
    | true =>
     obtain ⟨r, h1, h2⟩ := ih sn (hb1 rfl) hS
     exact ⟨r, Ev.step (fun k => tenetref02_reached.l1.eq_2 ..) (Ev.neg (by omega) h1), h2⟩
    | false =>
     refine ⟨sn, Ev.step (fun k => tenetref02_reached.l1.eq_2 ..) (Ev.neg (by omega) (Ev.step (fun k => tenetref02_reached.l0.eq_2 ..) (Ev.neg (by decide) (Ev.now _)))), hS.len, fun x => ⟨hS.sound x, fun k => ?_⟩⟩
     have hq := hb3 rfl
     rw [show i = L.length by omega, List.take_length] at hq
     induction k with
     | start => exact hS.start
     | step _ h2 ihk =>
      obtain ⟨e, he, e1, e2, e3⟩ := h2
      have := hq e he
      unfold quietE at this
      rw [e1, e2, Int.toNat_natCast, Int.toNat_natCast] at this
      exact Classical.byContradiction fun hc => this ⟨ihk, hc, e3⟩
   | succ d ihd =>
    intro i sn b hd hS hb1 hb2 hb3
    have hi : i < L.length := by omega
    obtain ⟨q1, q2, q3, q4, q5, q6⟩ := h.edge _ (List.getElem_mem hi)
    by_cases hc : seenAt sn L[i].f0.toNat ∧ ¬ seenAt sn L[i].f1.toNat ∧ tightE vals L[i]
    ·have hlt : L[i].f1.toNat < sn.length := by rw [hS.len]; omega
     have hcnt := count_set sn _ hlt hc.2.1
     have hset := fun z => seenAt_set (seen := sn) hlt z
     obtain ⟨r, h1, h2⟩ := ihd (i + 1) (sn.set L[i].f1.toNat true) true (by omega) ⟨by rw [List.length_set]; exact hS.len, fun x hx => by
       rcases (hset x).1 hx with h3 | h3
       ·rw [h3]
        exact (hS.sound _ hc.1).step ⟨L[i], List.getElem_mem hi, by omega, by omega, hc.2.2⟩
       ·exact hS.sound x h3, (hset s).2 (.inr hS.start)⟩ (fun _ => by omega) (by omega) (fun e => by cases e)
     exact ⟨r, step_j2 h hi hS.len b (fun _ _ _ => h1) (fun hn => (hn hc).elim), h2⟩
    ·obtain ⟨r, h1, h2⟩ := ihd (i + 1) sn b (by omega) hS hb1 hb2 (fun e x hx => by
      rw [List.take_succ_eq_append_getElem hi] at hx
      rcases List.mem_append.1 hx with h3 | h3
      ·exact hb3 e x h3
      ·rw [List.mem_singleton.1 h3]
       exact hc)
     exact ⟨r, step_j2 h hi hS.len b (fun a1 a2 a3 => (hc ⟨a1, a2, a3⟩).elim) (fun _ => h1), h2⟩
  obtain ⟨r, h1, h2⟩ := inner L.length 0 seen false (by omega) hR (fun e => by cases e) hM (fun _ e he => by simp at he)
  exact ⟨r, Ev.step (fun k => tenetref02_reached.l0.eq_2 ..) (Ev.pos rfl h1), h2⟩
theorem rreached_ev {n : Nat} {L : List S108} {vals : List Int} (h : EOk n L vals) {s : Nat} (hs : s ≤ n) : ∃ r, Ev (fun k => tenetref02_reached.f k (n : Int) L vals (s : Int)) r ∧ RLed n L vals s r := by
 have hn := h.n1
 have hw : wrap64 ((n : Int) + 1) = ((n + 1 : Nat) : Int) := by unfold wrap64; omega
 have hset := fun z => seenAt_set (seen := List.replicate (n + 1) false) (y := s) (by simp; omega) z
 have hno : ∀ z, ¬ seenAt (List.replicate (n + 1) false) z := fun z hz => by
  unfold seenAt at hz
  rw [List.getD_eq_getElem?_getD, List.getElem?_replicate] at hz
  split at hz <;> cases hz
 obtain ⟨r, h1, h2⟩ := rreached_l0 h s (((List.replicate (n + 1) false).set s true).count false + 1) ((List.replicate (n + 1) false).set s true) (by omega) ⟨by simp, fun z hz => by
   rcases (hset z).1 hz with h3 | h3
   ·rw [h3]; exact .start
   ·exact (hno z h3).elim, (hset s).2 (.inl rfl)⟩
 refine ⟨r, Ev.congr (fun k => ?_) h1, h2⟩
 unfold tenetref02_reached.f
 rw [hw, Int.toNat_natCast, if_pos (by omega), if_pos (by omega), Option.bind_some, if_pos (by omega), if_pos (by rw [List.length_replicate]; omega), Int.toNat_natCast]
end Go.Proofs.Ytegejpcglabhbaa.G
