/- A part of this claim's proof: texts of its author, and printed ones, packed by a program of its author's. -/
import Derived.Test.YtegejpcglabhbaaCe15
import Derived.Test.YtegejpcglabhbaaCe16
namespace Go.Proofs.Ytegejpcglabhbaa.G
open Go.RowKit Go.Proofs.YtegejpcglabhbaaW.PrintWords Go.Proofs.YtegejpcglabhbaaW.PrintLast Go.Proofs.YtegejpcglabhbaaW.PrintMore
set_option linter.unusedVariables false
set_option linter.unusedSimpArgs false
inductive Lead (R : Nat → Nat → Prop) (s : Nat) : Nat → Prop
 | start : Lead R s s
 | step {x y : Nat} : Lead R s x → R x y → Lead R s y
theorem Lead.mono {R Q : Nat → Nat → Prop} (h : ∀ x y, R x y → Q x y) {s x : Nat} (k : Lead R s x) : Lead Q s x := by
 induction k with
 | start => exact .start
 | step _ h2 ih => exact ih.step (h _ _ h2)
theorem Lead.trans {R : Nat → Nat → Prop} {a b c : Nat} (h : Lead R a b) (k : Lead R b c) : Lead R a c := by
 induction k with
 | start => exact h
 | step _ h2 ih => exact ih.step h2
theorem Lead.flip {R Q : Nat → Nat → Prop} (h : ∀ x y, R x y → Q y x) {a b : Nat} (k : Lead R a b) : Lead Q b a := by
 induction k with
 | start => exact .start
 | step _ h2 ih => exact Lead.trans (Lead.start.step (h _ _ h2)) ih
def nextR (next : List (List Int)) (x y : Nat) : Prop := (y : Int) ∈ next.getD x []
def NextOk (next : List (List Int)) : Prop := ∀ row ∈ next, row.length ≤ 1000000000 ∧ ∀ y ∈ row, 0 ≤ y ∧ y < next.length
def seenAt (seen : List Bool) (x : Nat) : Prop := seen.getD x false = true
theorem seenAt_set {seen : List Bool} {y : Nat} (hy : y < seen.length) (x : Nat) : seenAt (seen.set y true) x ↔ x = y ∨ seenAt seen x := by
 unfold seenAt
 rw [List.getD_eq_getElem?_getD, List.getD_eq_getElem?_getD, List.getElem?_set]
 by_cases e : y = x
 ·subst e
  rw [if_pos rfl, if_pos hy]
  simp
 ·rw [if_neg e]
  constructor
  ·exact .inr
  ·rintro (h | h)
   ·exact absurd h.symm e
   ·exact h
theorem seenAt_lt {seen : List Bool} {x : Nat} (h : seenAt seen x) : x < seen.length := by
 unfold seenAt at h
 by_cases e : x < seen.length
 ·exact e
 ·rw [List.getD_eq_getElem?_getD, List.getElem?_eq_none (by omega)] at h
  cases h
theorem count_set : ∀ (s : List Bool) (i : Nat), i < s.length → ¬ seenAt s i → (s.set i true).count false + 1 = s.count false
 | [], i, h, _ => by simp at h
 | b :: s, 0, _, h => by
  cases b with
  | true => exact absurd rfl h
  | false => simp
 | b :: s, i + 1, h, h2 => by
  have ih := count_set s i (by simpa using h) h2
  rw [List.set_cons_succ, List.count_cons, List.count_cons]
  omega
structure Dfs (next : List (List Int)) (s : Nat) (seen : List Bool) (todo : List Int) (hole : Nat → Nat → Prop) : Prop where
 len : seen.length = next.length
 sound : ∀ x, seenAt seen x → Lead (nextR next) s x
 start : seenAt seen s
 inTodo : ∀ t ∈ todo, ∃ x : Nat, t = x ∧ seenAt seen x
 closed : ∀ x, seenAt seen x → (x : Int) ∉ todo → ∀ y, nextR next x y → seenAt seen y ∨ hole x y
 fit : todo.length + seen.count false ≤ next.length
def Led (next : List (List Int)) (s : Nat) (r : List Bool) : Prop := r.length = next.length ∧ ∀ x, seenAt r x ↔ Lead (nextR next) s x
theorem Dfs.led {next : List (List Int)} {s : Nat} {seen : List Bool} (h : Dfs next s seen [] (fun _ _ => False)) : Led next s seen := by
 refine ⟨h.len, fun x => ⟨h.sound x, fun k => ?_⟩⟩
 induction k with
 | start => exact h.start
 | step _ h2 ih =>
  rcases h.closed _ ih (by simp) _ h2 with h3 | h3
  ·exact h3
  ·exact h3.elim
theorem rdi_get {l : List Int} {i : Nat} (h : i < l.length) : rd l (i : Int) = l[i] := by simp [rd, List.getD_eq_getElem?_getD, List.getElem?_eq_getElem h]
theorem mem_of_getD {next : List (List Int)} {x : Nat} {y : Int} (h : y ∈ next.getD x []) : next.getD x [] ∈ next := by
 rw [List.getD_eq_getElem?_getD] at h ⊢
 cases hq : next[x]? with
 | none => rw [hq] at h; simp at h
 | some row => exact List.mem_of_getElem? hq
theorem row_bound {next : List (List Int)} (hok : NextOk next) (x : Nat) : (next.getD x []).length ≤ 1000000000 ∧ ∀ y ∈ next.getD x [], 0 ≤ y ∧ y < next.length := by
 refine ⟨?_, fun y hy => (hok _ (mem_of_getD hy)).2 y hy⟩
 rw [List.getD_eq_getElem?_getD]
 cases hq : next[x]? with
 | none => simp
 | some row => exact (hok _ (List.mem_of_getElem? hq)).1
def left (next : List (List Int)) (x0 i : Nat) (x y : Nat) : Prop := x = x0 ∧ (y : Int) ∈ (next.getD x0 []).drop i
theorem reached_l0 {next : List (List Int)} (hok : NextOk next) (hn : next.length ≤ 100000) (s : Nat) : ∀ (M : Nat) (seen : List Bool) (todo : List Int), 2 * seen.count false + todo.length ≤ M → Dfs next s seen todo (fun _ _ => False) →
  ∃ r, Ev (fun k => graph_reached.l0 k next seen todo) r ∧ Led next s r := by
 intro M
 induction M with
 | zero =>
  intro seen todo hM h
  obtain rfl : todo = [] := List.length_eq_zero_iff.1 (by omega)
  exact ⟨seen, Ev.step (fun k => graph_reached.l0.eq_2 ..) (Ev.neg (by simp) (Ev.now _)), h.led⟩
 | succ M ih =>
  intro seen todo hM h
  by_cases h0 : todo = []
  ·subst h0
   exact ⟨seen, Ev.step (fun k => graph_reached.l0.eq_2 ..) (Ev.neg (by simp) (Ev.now _)), h.led⟩
  ·have hpos : 0 < todo.length := List.length_pos_iff.2 h0
   have hfit := h.fit
   have hw : wrap64 ((todo.length : Int) - 1) = ((todo.length - 1 : Nat) : Int) := by unfold wrap64; omega
   have hlast : todo.length - 1 < todo.length := by omega
   obtain ⟨x, hx, hsx⟩ := h.inTodo _ (List.getElem_mem hlast)
   have hxl : x < next.length := by rw [← h.len]; exact seenAt_lt hsx
   have hsplit : todo = todo.take (todo.length - 1) ++ [(x : Int)] := by
    rw [← hx, ← List.take_succ_eq_append_getElem hlast, show todo.length - 1 + 1 = todo.length by omega, List.take_length]
   obtain ⟨rest, hrest⟩ : ∃ rest, rest = todo.take (todo.length - 1) := ⟨_, rfl⟩
   rw [← hrest] at hsplit
   have hrl : rest.length + 1 = todo.length := by rw [hrest, List.length_take]; omega
   obtain ⟨hrow1, hrow2⟩ := row_bound hok x
   have inner : ∀ (d i : Nat) (sn : List Bool) (td : List Int), d + i = (next.getD x []).length → 2 * sn.count false + td.length ≤ M → Dfs next s sn td (left next x i) →
     ∃ r, Ev (fun k => graph_reached.l1 k next sn td (next.getD x []) ((next.getD x []).length : Int) (i : Int)) r ∧ Led next s r := by
    intro d
    induction d with
    | zero =>
     intro i sn td hd hM2 hD
     obtain ⟨r, h1, h2⟩ := ih sn td hM2 ⟨hD.len, hD.sound, hD.start, hD.inTodo, fun z hz ht y hy => (hD.closed z hz ht y hy).elim .inl (fun ⟨_, h3⟩ => absurd h3 (by rw [List.drop_eq_nil_of_le (by omega)]; exact List.not_mem_nil)), hD.fit⟩
     exact ⟨r, Ev.step (fun k => graph_reached.l1.eq_2 ..) (Ev.neg (by omega) h1), h2⟩
    | succ d ihd =>
     intro i sn td hd hM2 hD
     have hi : i < (next.getD x []).length := by omega
     obtain ⟨y, hy⟩ := Int.eq_ofNat_of_zero_le (hrow2 _ (List.getElem_mem hi)).1
     have hyl : y < next.length := by have := (hrow2 _ (List.getElem_mem hi)).2; omega
     have hsl := hD.len
     have hcl : ∀ sn2 : List Bool, (∀ z, seenAt sn z → seenAt sn2 z) → seenAt sn2 y → ∀ z w, seenAt sn w ∨ left next x i z w → seenAt sn2 w ∨ left next x (i + 1) z w := fun sn2 h1 h2 z w h3 => by
      rcases h3 with h3 | ⟨h3, h4⟩
      ·exact .inl (h1 w h3)
      ·rw [List.drop_eq_getElem_cons hi] at h4
       rcases List.mem_cons.1 h4 with h5 | h5
       ·have : w = y := by omega
        exact .inl (this ▸ h2)
       ·exact .inr ⟨h3, h5⟩
     by_cases hs : seenAt sn y
     ·obtain ⟨r, h1, h2⟩ := ihd (i + 1) sn td (by omega) hM2 ⟨hD.len, hD.sound, hD.start, hD.inTodo, fun z hz ht w hw => hcl sn (fun _ h => h) hs z w (hD.closed z hz ht w hw), hD.fit⟩
      refine ⟨r, Ev.step (fun k => graph_reached.l1.eq_2 ..) (Ev.pos (by omega) (Ev.pos (by omega) (Ev.pos (by omega) ?_))), h2⟩
      rw [rdi_get hi, hy, w64n _ (by omega)]
      exact Ev.pos (by omega) (Ev.pos (by omega) (Ev.pos (by unfold rdOf; rw [Int.toNat_natCast]; exact hs) h1))
     ·have hc := count_set sn y (by omega) hs
      have hset := fun z => seenAt_set (seen := sn) (y := y) (by omega) z
      have hfit2 := hD.fit
      obtain ⟨r, h1, h2⟩ := ihd (i + 1) (sn.set y true) (td ++ [(y : Int)]) (by omega) (by rw [List.length_append, List.length_singleton]; omega) ⟨by rw [List.length_set]; exact hsl, fun z hz => by
        rcases (hset z).1 hz with h3 | h3
        ·subst h3
         exact (h.sound x hsx).step (show (z : Int) ∈ next.getD x [] from hy ▸ List.getElem_mem hi)
        ·exact hD.sound z h3, (hset s).2 (.inr hD.start), fun t ht => by
        rcases List.mem_append.1 ht with h3 | h3
        ·obtain ⟨z, h4, h5⟩ := hD.inTodo t h3
         exact ⟨z, h4, (hset z).2 (.inr h5)⟩
        ·exact ⟨y, by simpa using h3, (hset y).2 (.inl rfl)⟩, fun z hz ht w hw => by
        rcases (hset z).1 hz with h3 | h3
        ·subst h3
         exact (ht (by simp)).elim
        ·exact hcl _ (fun u hu => (hset u).2 (.inr hu)) ((hset y).2 (.inl rfl)) z w (hD.closed z h3 (fun hm => ht (List.mem_append_left _ hm)) w hw), by rw [List.length_append, List.length_singleton]; omega⟩
      refine ⟨r, Ev.step (fun k => graph_reached.l1.eq_2 ..) (Ev.pos (by omega) (Ev.pos (by omega) (Ev.pos (by omega) ?_))), h2⟩
      rw [rdi_get hi, hy, w64n _ (by omega)]
      refine Ev.pos (by omega) (Ev.pos (by omega) (Ev.neg (by unfold rdOf; rw [Int.toNat_natCast]; exact hs) (Ev.pos (by omega) ?_)))
      rw [Int.toNat_natCast]
      exact h1
   obtain ⟨r, h1, h2⟩ := inner (next.getD x []).length 0 seen rest (by omega) (by omega) ⟨h.len, h.sound, h.start, fun t ht => h.inTodo t (by rw [hsplit]; exact List.mem_append_left _ ht), fun z hz ht y hy => by
    by_cases hzx : z = x
    ·subst hzx
     exact .inr ⟨rfl, by rw [List.drop_zero]; exact hy⟩
    ·rcases h.closed z hz (fun hm => by
      rw [hsplit] at hm
      rcases List.mem_append.1 hm with h3 | h3
      ·exact ht h3
      ·exact hzx (by have := List.mem_singleton.1 h3; omega)) y hy with h3 | h3
     ·exact .inl h3
     ·exact h3.elim, by omega⟩
   refine ⟨r, Ev.step (fun k => graph_reached.l0.eq_2 ..) (Ev.pos (by omega) ?_), h2⟩
   rw [hw]
   refine Ev.pos (by omega) (Ev.pos (by omega) (Ev.pos (by omega) ?_))
   rw [rdi_get hlast, hx, Int.toNat_natCast, ← hrest]
   have hrdl : rd_L8 next (x : Int) = next.getD x [] := by unfold rd_L8; rw [Int.toNat_natCast]
   rw [hrdl]
   exact Ev.pos (by omega) (Ev.pos (by omega) h1)
theorem reached_ev {next : List (List Int)} (hok : NextOk next) (hn : next.length ≤ 100000) {s : Nat} (hs : s < next.length) : ∃ r, Ev (fun k => graph_reached.f k next (s : Int)) r ∧ Led next s r := by
 have hset := fun z => seenAt_set (seen := List.replicate next.length false) (y := s) (by simpa using hs) z
 have hno : ∀ z, ¬ seenAt (List.replicate next.length false) z := fun z hz => by
  have := seenAt_lt hz
  unfold seenAt at hz
  rw [List.getD_eq_getElem?_getD, List.getElem?_replicate] at hz
  split at hz <;> cases hz
 have hc := count_set (List.replicate next.length false) s (by simpa using hs) (hno s)
 rw [List.count_replicate_self] at hc
 obtain ⟨r, h1, h2⟩ := reached_l0 hok hn s (2 * next.length + 1) ((List.replicate next.length false).set s true) [(s : Int)] (by simp only [List.length_singleton]; omega) ⟨by simp, fun z hz => by
   rcases (hset z).1 hz with h3 | h3
   ·subst h3; exact .start
   ·exact (hno z h3).elim, (hset s).2 (.inl rfl), fun t ht => ⟨s, by simpa using ht, (hset s).2 (.inl rfl)⟩, fun z hz ht => by
   rcases (hset z).1 hz with h3 | h3
   ·subst h3; exact (ht (by simp)).elim
   ·exact (hno z h3).elim, by simp only [List.length_singleton]; omega⟩
 refine ⟨r, Ev.congr (fun k => rfl) (Ev.pos (by omega) (Ev.pos (by omega) (Ev.bind (Ev.now _) (Ev.pos (by omega) (Ev.pos ?_ ?_))))), h2⟩
 ·rw [List.length_replicate]; omega
 ·rw [Int.toNat_natCast, Int.toNat_natCast]
  exact h1
end Go.Proofs.Ytegejpcglabhbaa.G
