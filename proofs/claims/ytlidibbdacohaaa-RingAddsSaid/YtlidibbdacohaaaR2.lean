import Derived.Test.YtlidibbdacohaaaPRingEqualsxf100
import Derived.Test.YtlidibbdacohaaaR1
import Derived.Test.YtlidibbdacohaaaPRingEqualsxf80
import Derived.Test.YtlidibbdacohaaaPRingEqualsxf102
import Derived.Test.YtlidibbdacohaaaPRingEqualsxf82
import Derived.Test.YtlidibbdacohaaaPRingEqualsxf59
import Derived.Test.YtlidibbdacohaaaPRingEqualsxf75
import Derived.Test.YtlidibbdacohaaaPRingEqualsx0
/- The reference's less, same and into: what they answer. The reference's add and times: what they answer. The reference's mul: what it answers; sums and products by their coefficients. The reference's normal: what it answers. The reference's Size, formed, Valid; the program's sizeOf and formed: what they answer. The reference's Valid and big; formed of both: what they answer. No condition. -/
namespace Go.Proofs.Ytlidibbdacohaaa.R
section
open Go.RowKit Go.Proofs.Ytlidibbdacohaaa.PRingEquals Go.Proofs.YtlidibbdacohaaaW.PrintWords Go.Proofs.YtlidibbdacohaaaW.PrintLast Go.Proofs.YtlidibbdacohaaaW.PrintMore
set_option linter.unusedVariables false
set_option linter.unusedSimpArgs false

theorem rd_nat (l : List Int) (i : Nat) (h : i < l.length) : rd l (i : Int) = l[i] := by
  simp [rd, List.getD_eq_getElem?_getD, List.getElem?_eq_getElem h]
theorem wrap_nat {i : Nat} (h : i < 4398046511104) : wrap64 ((i : Int) + 1) = ((i + 1 : Nat) : Int) := by
  unfold wrap64
  omega
theorem lessE_drop {a b : Ex} {i : Nat} (ha : i < a.length) (hb : i < b.length) : lessE (a.drop i) (b.drop i) = if a[i] = b[i] then lessE (a.drop (i + 1)) (b.drop (i + 1)) else decide (a[i] > b[i]) := by
  rw [List.drop_eq_getElem_cons ha, List.drop_eq_getElem_cons hb]
  rfl
theorem less_l0 {a b : Ex} (ha : a.length = 8) (hb : b.length = 8) : ∀ (d i : Nat), d + i = 8 → Ev (fun k => tenetref24_less.l0 k a b (i : Int)) (lessE (a.drop i) (b.drop i))
  | 0, i, h => by
    have h8 : ¬ (i : Int) < 8 := by omega
    refine Ev.step (fun k => tenetref24_less.l0.eq_2 _ _ _ _) ?_
    simp only [if_neg h8]
    rw [List.drop_eq_nil_of_le (by omega), List.drop_eq_nil_of_le (by omega)]
    exact Ev.now false
  | d + 1, i, h => by
    have h8 : (i : Int) < 8 := by omega
    have h0 : (0 : Int) ≤ (i : Int) := by omega
    have h1 : (i : Int) < (a.length : Int) := by omega
    have h2 : (i : Int) < (b.length : Int) := by omega
    refine Ev.step (fun k => tenetref24_less.l0.eq_2 _ _ _ _) ?_
    simp only [if_pos h8, if_pos h0, if_pos h1, if_pos h2]
    rw [lessE_drop (by omega) (by omega), rd_nat a i (by omega), rd_nat b i (by omega), wrap_nat (by omega)]
    by_cases e : a[i]'(by omega) = b[i]'(by omega)
    · simp only [if_pos e]
      exact less_l0 ha hb d (i + 1) (by omega)
    · simp only [if_neg e]
      exact Ev.now _
theorem less_ev {a b : Ex} (ha : a.length = 8) (hb : b.length = 8) : Ev (fun k => tenetref24_less.f k a b) (lessE a b) := less_l0 ha hb 8 0 rfl
theorem same_ev {a b : Ex} (ha : a.length = 8) (hb : b.length = 8) : Ev (fun k => tenetref24_same.f k a b) (decide (a = b)) := by
  unfold tenetref24_same.f
  refine Ev.bind (less_ev ha hb) ?_
  cases h1 : lessE a b with
  | true =>
    have hne : a ≠ b := fun e => by rw [e, lessE_irr] at h1; cases h1
    simp only [if_true]
    rw [decide_eq_false hne]
    exact Ev.now false
  | false =>
    simp only [Bool.false_eq_true, if_false]
    refine Ev.bind (less_ev hb ha) ?_
    cases h2 : lessE b a with
    | true =>
      have hne : a ≠ b := fun e => by rw [e, lessE_irr] at h2; cases h2
      rw [decide_eq_false hne]
      exact Ev.now false
    | false =>
      rw [decide_eq_true (lessE_tri (by rw [ha, hb]) h1 h2)]
      exact Ev.now true
/-- A monomial as the reference has it. -/
def toS (t : Ex × Int) : S74 := ⟨t.2, t.1⟩
abbrev toL (l : Po) : List S74 := l.map toS
theorem rd_toL (l : Po) (i : Nat) (h : i < l.length) : rd_T74 (toL l) (i : Int) = toS l[i] := by
  simp [rd_T74, List.getD_eq_getElem?_getD, List.getElem?_eq_getElem h, toL]
/-- 'into', step by step. -/
def intoG (t : Ex × Int) : Po → Option Po
  | [] => some [t]
  | x :: l => if lessE x.1 t.1 = true then (intoG t l).map (x :: ·) else if x.1 = t.1 then (if x.2 > 1000000000000000 - t.2 then none else some ((x.1, x.2 + t.2) :: l)) else some (t :: x :: l)
theorem intoG_eq {t : Ex × Int} (ht : t.1.length = 8) (hc : t.2 ≤ 1000000000000000) : ∀ {l : Po}, Nf l → intoG t l = intoF l t
  | [], _ => by
    have e : co [] t.1 = 0 := rfl
    unfold intoF
    rw [e, if_neg (by omega)]
    rfl
  | x :: l, h => by
    have ih := intoG_eq ht hc h.tail
    have hx := h.len x (List.mem_cons_self ..)
    have ec : co (x :: l) t.1 = (if x.1 = t.1 then x.2 else 0) + co l t.1 := rfl
    have ei : ins (x :: l) t = if lessE x.1 t.1 = true then x :: ins l t else if lessE t.1 x.1 = true then t :: x :: l else (x.1, x.2 + t.2) :: l := rfl
    have eg : intoG t (x :: l) = if lessE x.1 t.1 = true then (intoG t l).map (x :: ·) else if x.1 = t.1 then (if x.2 > 1000000000000000 - t.2 then none else some ((x.1, x.2 + t.2) :: l)) else some (t :: x :: l) := rfl
    unfold intoF at ih ⊢
    rw [eg]
    by_cases h1 : lessE x.1 t.1 = true
    · have hne : x.1 ≠ t.1 := fun e => by rw [e, lessE_irr] at h1; cases h1
      rw [if_neg hne, Int.zero_add] at ec
      rw [if_pos h1] at ei
      rw [if_pos h1, ih, ec, ei]
      by_cases h2 : 1000000000000000 < co l t.1 + t.2
      · rw [if_pos h2, if_pos h2]
        rfl
      · rw [if_neg h2, if_neg h2]
        rfl
    · rw [if_neg h1] at ei ⊢
      by_cases h2 : x.1 = t.1
      · have hz : co l t.1 = 0 := co_zero (by rw [← h2]; exact h.head_ne)
        have hl : lessE t.1 x.1 = false := by rw [h2, lessE_irr]
        rw [if_pos h2, hz, Int.add_zero] at ec
        rw [hl] at ei
        rw [if_pos h2, ec, ei]
        by_cases h3 : x.2 > 1000000000000000 - t.2
        · rw [if_pos h3, if_pos (by omega)]
        · rw [if_neg h3, if_neg (by omega)]
          rfl
      · have hl : lessE t.1 x.1 = true := by
          cases h3 : lessE t.1 x.1 with
          | true => rfl
          | false => exact absurd (lessE_tri (by rw [ht, hx]) (by simpa using h1) h3) h2
        have hz : co l t.1 = 0 := co_zero fun y hy e => by
          have h4 := lessE_trans hl ((List.pairwise_cons.1 h.ord).1 y hy)
          rw [e, lessE_irr] at h4
          cases h4
        rw [if_neg h2, hz] at ec
        rw [if_pos hl] at ei
        rw [if_neg h2, ec, ei, if_neg (by omega)]
/-- What 'into' hands over. -/
def outI (r : Option Po) : List S74 × Bool := match r with | some l => (toL l, true) | none => ([], false)
theorem into_no {L : Po} {t : Ex × Int} (hn : L.length ≤ 100000) {i : Nat} (hi : i ≤ L.length) : Ev (fun k => tenetref24_into.j2 k (toL L) (i : Int) (toL (L.take i)) false t.2 t.1) (outI (some (L.take i ++ t :: L.drop i))) := by
  have h0 : (0 : Int) ≤ (i : Int) := by omega
  have hlL : (toL L).length = L.length := by simp
  have hlT : (toL (L.take i)).length = i := by simp; omega
  have hlD : (toL (L.drop i)).length = L.length - i := by simp
  have h1 : (i : Int) ≤ ((toL L).length : Int) := by rw [hlL]; omega
  have h3 : (toL (L.take i)).length < 4398046511104 := by rw [hlT]; omega
  have hd : (toL L).drop (i : Int).toNat = toL (L.drop i) := by rw [Int.toNat_natCast, toL, toL, List.map_drop]
  have h6 : (toL (L.take i) ++ [(⟨t.2, t.1⟩ : S74)]).length + (toL (L.drop i)).length < 4398046511104 := by rw [List.length_append, hlT, hlD, List.length_singleton]; omega
  have he : (toL (L.take i) ++ [(⟨t.2, t.1⟩ : S74)] ++ toL (L.drop i), true) = outI (some (L.take i ++ t :: L.drop i)) := by simp [outI, toL, toS]
  refine Ev.step (fun k => (tenetref24_into.j2.eq_2 ..).trans (if_neg Bool.false_ne_true)) ?_
  rw [if_pos h3, Option.bind_some, if_pos h0, if_pos h1, hd, Option.bind_some, if_pos h6, he]
  exact Ev.now _
theorem into_yes {L : Po} {t : Ex × Int} (hL : ∀ x ∈ L, x.1.length = 8 ∧ 0 < x.2 ∧ x.2 ≤ 1000000000000000) (hn : L.length ≤ 100000) (hp : 0 < t.2) (hc : t.2 ≤ 1000000000000000) {i : Nat} (hi : i < L.length) : Ev (fun k => tenetref24_into.j2 k (toL L) (i : Int) (toL (L.take i)) true t.2 t.1)
    (outI (if L[i].2 > 1000000000000000 - t.2 then none else some (L.take i ++ (L[i].1, L[i].2 + t.2) :: L.drop (i + 1)))) := by
  have h0 : (0 : Int) ≤ (i : Int) := by omega
  have hlL : (toL L).length = L.length := by simp
  have hlT : (toL (L.take i)).length = i := by simp; omega
  refine Ev.step (fun k => tenetref24_into.j2.eq_2 _ _ _ _ _ _ _) ?_
  have h1 : (i : Int) < ((toL L).length : Int) := by rw [hlL]; omega
  have hx := hL L[i] (List.getElem_mem hi)
  have hw : wrap64 (1000000000000000 - t.2) = 1000000000000000 - t.2 := by unfold wrap64; omega
  simp only [if_true, if_pos h0, if_pos h1, rd_toL L i hi, hw]
  by_cases h2 : L[i].2 > 1000000000000000 - t.2
  · have h2' : (toS L[i]).f0 > 1000000000000000 - t.2 := h2
    simp only [if_pos h2', if_pos h2]
    exact Ev.now _
  · have h2' : ¬ (toS L[i]).f0 > 1000000000000000 - t.2 := h2
    have h3 : (toL (L.take i)).length < 4398046511104 := by rw [hlT]; omega
    have hw2 : wrap64 ((toS L[i]).f0 + t.2) = L[i].2 + t.2 := by show wrap64 (L[i].2 + t.2) = _; unfold wrap64; omega
    have h4 : (0 : Int) ≤ ((i + 1 : Nat) : Int) := by omega
    have h5 : ((i + 1 : Nat) : Int) ≤ ((toL L).length : Int) := by rw [hlL]; omega
    have hd : (toL L).drop ((i + 1 : Nat) : Int).toNat = toL (L.drop (i + 1)) := by rw [Int.toNat_natCast, toL, toL, List.map_drop]
    simp only [if_neg h2', if_neg h2, if_pos h3, hw2, Option.bind_some, wrap_nat (show i < 4398046511104 by omega), if_pos h4, if_pos h5, hd]
    have h6 : (toL (L.take i) ++ [(⟨L[i].2 + t.2, (toS L[i]).f1⟩ : S74)]).length + (toL (L.drop (i + 1))).length < 4398046511104 := by simp; omega
    simp only [if_pos h6]
    rw [show (toL (L.take i) ++ [(⟨L[i].2 + t.2, (toS L[i]).f1⟩ : S74)] ++ toL (L.drop (i + 1)), true) = outI (some (L.take i ++ (L[i].1, L[i].2 + t.2) :: L.drop (i + 1))) by simp [outI, toL, toS]]
    exact Ev.now _
section
variable {L : Po} {t : Ex × Int} (hL : ∀ x ∈ L, x.1.length = 8 ∧ 0 < x.2 ∧ x.2 ≤ 1000000000000000) (hn : L.length ≤ 100000) (ht : t.1.length = 8) (hp : 0 < t.2) (hc : t.2 ≤ 1000000000000000)
include hL hn ht hp hc
theorem into_j1 {i : Nat} (hi : i ≤ L.length) (hno : ∀ h : i < L.length, lessE L[i].1 t.1 = false) : Ev (fun k => tenetref24_into.j1 k (toL L) (i : Int) t.2 t.1) (outI ((intoG t (L.drop i)).map (L.take i ++ ·))) := by
  have h0 : (0 : Int) ≤ (i : Int) := by omega
  have hlL : (toL L).length = L.length := by simp
  have h1 : (i : Int) ≤ ((toL L).length : Int) := by rw [hlL]; omega
  have hd : (toL L).take (i : Int).toNat = toL (L.take i) := by rw [Int.toNat_natCast, toL, toL, List.map_take]
  have h6 : ([] : List S74).length + (toL (L.take i)).length < 4398046511104 := by simp; omega
  refine Ev.step (fun k => tenetref24_into.j1.eq_2 _ _ _ _ _) ?_
  simp only [if_pos h0, if_pos h1, hd, Option.bind_some]
  simp only [if_pos h6, List.nil_append]
  by_cases hlt : i < L.length
  · have h2 : (i : Int) < ((toL L).length : Int) := by rw [hlL]; omega
    simp only [if_pos h2, rd_toL L i hlt]
    have hx := hL L[i] (List.getElem_mem hlt)
    refine Ev.bind (same_ev (a := L[i].1) (b := t.1) hx.1 ht) ?_
    have eg : intoG t (L.drop i) = if L[i].1 = t.1 then (if L[i].2 > 1000000000000000 - t.2 then none else some ((L[i].1, L[i].2 + t.2) :: L.drop (i + 1))) else some (t :: L.drop i) := by
      rw [List.drop_eq_getElem_cons hlt]
      show (if lessE L[i].1 t.1 = true then _ else _) = _
      rw [hno hlt]
      rfl
    by_cases e : L[i].1 = t.1
    · rw [eg, if_pos e, decide_eq_true e]
      have h7 := into_yes hL hn hp hc hlt
      by_cases h8 : L[i].2 > 1000000000000000 - t.2
      · rw [if_pos h8] at h7 ⊢
        exact h7
      · rw [if_neg h8] at h7 ⊢
        exact h7
    · rw [eg, if_neg e, decide_eq_false e]
      exact into_no (t := t) hn hi
  · have h2 : ¬ (i : Int) < ((toL L).length : Int) := by rw [hlL]; omega
    simp only [if_neg h2]
    have h7 := into_no (t := t) hn hi
    rw [List.drop_eq_nil_of_le (show L.length ≤ i by omega)] at h7 ⊢
    exact h7
theorem into_l0 : ∀ (d i : Nat), d + i = L.length → Ev (fun k => tenetref24_into.l0 k (toL L) (i : Int) t.2 t.1) (outI ((intoG t (L.drop i)).map (L.take i ++ ·)))
  | 0, i, h => by
    have hlL : (toL L).length = L.length := by simp
    have h1 : ¬ (i : Int) < ((toL L).length : Int) := by rw [hlL]; omega
    refine Ev.step (fun k => tenetref24_into.l0.eq_2 _ _ _ _ _) ?_
    simp only [if_neg h1]
    exact into_j1 hL hn ht hp hc (by omega) (fun h => by omega)
  | d + 1, i, h => by
    have hlL : (toL L).length = L.length := by simp
    have hlt : i < L.length := by omega
    have h1 : (i : Int) < ((toL L).length : Int) := by rw [hlL]; omega
    have h0 : (0 : Int) ≤ (i : Int) := by omega
    have hx := hL L[i] (List.getElem_mem hlt)
    refine Ev.step (fun k => tenetref24_into.l0.eq_2 _ _ _ _ _) ?_
    simp only [if_pos h1, if_pos h0, rd_toL L i hlt, wrap_nat (show i < 4398046511104 by omega)]
    refine Ev.bind (less_ev (a := L[i].1) (b := t.1) hx.1 ht) ?_
    by_cases hl : lessE L[i].1 t.1 = true
    · have h7 := into_l0 d (i + 1) (by omega)
      have eg : (intoG t (L.drop i)).map (L.take i ++ ·) = (intoG t (L.drop (i + 1))).map (L.take (i + 1) ++ ·) := by
        rw [List.drop_eq_getElem_cons hlt]
        show (if lessE L[i].1 t.1 = true then _ else _ : Option Po).map _ = _
        rw [if_pos hl, Option.map_map]
        congr 1
        funext r
        show L.take i ++ (L[i] :: r) = L.take (i + 1) ++ r
        rw [List.take_succ_eq_append_getElem hlt, List.append_assoc]
        rfl
      rw [eg, hl]
      exact h7
    · have hl2 : lessE L[i].1 t.1 = false := by simpa using hl
      rw [hl2]
      exact into_j1 hL hn ht hp hc (by omega) (fun _ => hl2)
end
/-- The reference's into. -/
theorem into_ev {L : Po} {t : Ex × Int} (hL : Nf L) (hm : ∀ x ∈ L, x.2 ≤ 1000000000000000) (hn : L.length ≤ 100000) (ht : t.1.length = 8) (hp : 0 < t.2) (hc : t.2 ≤ 1000000000000000) : Ev (fun k => tenetref24_into.f k (toL L) t.2 t.1) (outI (intoF L t)) := by
  have h1 := into_l0 (L := L) (t := t) (fun x hx => ⟨hL.len x hx, hL.pos x hx, hm x hx⟩) hn ht hp hc L.length 0 rfl
  rw [List.drop_zero, intoG_eq ht hc hL] at h1
  have e : (intoF L t).map (L.take 0 ++ ·) = intoF L t := by simp
  rw [e] at h1
  exact h1
theorem top_mem {l : Po} (h : Nf l) (ht : Top l) : ∀ x ∈ l, x.2 ≤ 1000000000000000 := fun x hx => by
  have := ht x.1
  rwa [h.co_mem hx] at this
theorem intoF_some {l r : Po} {t : Ex × Int} (h : Nf l) (ht : Top l) (h8 : t.1.length = 8) (hp : 0 < t.2) (e : intoF l t = some r) : Nf r ∧ Top r ∧ r.length ≤ l.length + 1 := by
  unfold intoF at e
  split at e
  · cases e
  · rename_i hc
    cases e
    refine ⟨ins_nf h8 hp h, fun e => ?_, ?_⟩
    · rw [ins_co h8 e h]
      by_cases he : t.1 = e
      · subst he
        rw [if_pos rfl]
        omega
      · rw [if_neg he]
        have := ht e
        omega
    · rw [ins_len h8 h]
      split <;> omega
/-- Terms that may be put in. -/
def Terms (ts : Po) : Prop := ∀ t ∈ ts, t.1.length = 8 ∧ 0 < t.2 ∧ t.2 ≤ 1000000000000000
/-- What add and mul hand over. -/
def outA (r : Option Po) : List S74 × Bool := match r with | some l => (toL l, decide ((l.length : Int) ≤ 200)) | none => ([], false)
theorem add_l0 {b : Po} (hb : Terms b) (hbl : b.length ≤ 50000) : ∀ (d i : Nat) (out : Po), d + i = b.length → Nf out → Top out → out.length + d ≤ 100000 → Ev (fun k => tenetref24_add.l0 k (toL b) (toL out) (i : Int)) (outA (intoAll out (b.drop i)))
  | 0, i, out, h, hn, ht, hl => by
    have hlb : (toL b).length = b.length := by simp
    have hlo : (toL out).length = out.length := by simp
    have h1 : ¬ (i : Int) < ((toL b).length : Int) := by rw [hlb]; omega
    refine Ev.step (fun k => tenetref24_add.l0.eq_2 ..) ?_
    simp only [if_neg h1]
    rw [List.drop_eq_nil_of_le (show b.length ≤ i by omega), hlo]
    exact Ev.now _
  | d + 1, i, out, h, hn, ht, hl => by
    have hlb : (toL b).length = b.length := by simp
    have hlt : i < b.length := by omega
    have h1 : (i : Int) < ((toL b).length : Int) := by rw [hlb]; omega
    have h0 : (0 : Int) ≤ (i : Int) := by omega
    obtain ⟨t1, t2, t3⟩ := hb b[i] (List.getElem_mem hlt)
    refine Ev.step (fun k => tenetref24_add.l0.eq_2 ..) ?_
    simp only [if_pos h1, if_pos h0, rd_toL b i hlt, wrap_nat (show i < 4398046511104 by omega)]
    refine Ev.bind (into_ev (L := out) (t := b[i]) hn (top_mem hn ht) (by omega) t1 t2 t3) ?_
    rw [List.drop_eq_getElem_cons hlt, intoAll_cons]
    cases e : intoF out b[i] with
    | none => exact Ev.now _
    | some r =>
      obtain ⟨r1, r2, r3⟩ := intoF_some hn ht t1 t2 e
      exact add_l0 hb hbl d (i + 1) r (by omega) r1 r2 (by omega)
theorem add_ev {a b : Po} (ha : Nf a) (hat : Top a) (hal : a.length ≤ 200) (hb : Terms b) (hbl : b.length ≤ 200) : Ev (fun k => tenetref24_add.f k (toL a) (toL b)) (outA (intoAll a b)) := by
  have h1 := add_l0 hb (by omega) b.length 0 a rfl ha hat (by omega)
  rw [List.drop_zero] at h1
  exact h1
theorem addE_get {a b : Ex} (ha : a.length = 8) (hb : b.length = 8) {i : Nat} (hi : i < 8) : (addE a b)[i]'(by rw [addE_len ha hb]; exact hi) = a[i]'(by omega) + b[i]'(by omega) := by
  simp [addE]
/-- Exponents of a normal form. -/
def ExOk (e : Ex) : Prop := e.length = 8 ∧ ∀ n ∈ e, 0 ≤ n ∧ n ≤ 60
theorem times_l0 {x y : Ex × Int} (hx : ExOk x.1) (hy : ExOk y.1) (c : Int) : ∀ (d i : Nat), d + i = 8 → Ev (fun k => tenetref24_times.l0 k (i : Int) x.2 x.1 y.2 y.1 c ((addE x.1 y.1).take i))
    (if (∀ n ∈ (addE x.1 y.1).drop i, n ≤ 60) then (c, addE x.1 y.1, true) else (0, [], false))
  | 0, i, h => by
    have hi : i = 8 := by omega
    have h8 : ¬ (i : Int) < 8 := by omega
    have hl := addE_len hx.1 hy.1
    refine Ev.step (fun k => tenetref24_times.l0.eq_2 ..) ?_
    simp only [if_neg h8]
    rw [List.drop_eq_nil_of_le (by omega), if_pos (fun n hn => by cases hn), List.take_of_length_le (by omega)]
    exact Ev.now _
  | d + 1, i, h => by
    have hi : i < 8 := by omega
    have h8 : (i : Int) < 8 := by omega
    have h0 : (0 : Int) ≤ (i : Int) := by omega
    have hl := addE_len hx.1 hy.1
    have h1 : (i : Int) < (x.1.length : Int) := by rw [hx.1]; omega
    have h2 : (i : Int) < (y.1.length : Int) := by rw [hy.1]; omega
    have bx := hx.2 (x.1[i]'(by rw [hx.1]; exact hi)) (List.getElem_mem _)
    have b_y := hy.2 (y.1[i]'(by rw [hy.1]; exact hi)) (List.getElem_mem _)
    have e1 : rd x.1 (i : Int) = x.1[i]'(by rw [hx.1]; exact hi) := rd_nat _ _ _
    have e2 : rd y.1 (i : Int) = y.1[i]'(by rw [hy.1]; exact hi) := rd_nat _ _ _
    have eg : wrap64 (rd x.1 (i : Int) + rd y.1 (i : Int)) = (addE x.1 y.1)[i]'(by rw [hl]; exact hi) := by
      rw [addE_get hx.1 hy.1 hi, e1, e2]
      unfold wrap64
      omega
    have ed : (addE x.1 y.1).drop i = (addE x.1 y.1)[i]'(by rw [hl]; exact hi) :: (addE x.1 y.1).drop (i + 1) := List.drop_eq_getElem_cons (by rw [hl]; exact hi)
    have h3 : ((addE x.1 y.1).take i).length < 17592186044416 := by rw [List.length_take]; omega
    refine Ev.step (fun k => tenetref24_times.l0.eq_2 ..) ?_
    simp only [if_pos h8, if_pos h0, if_pos h1, if_pos h2, eg, if_pos h3, wrap_nat (show i < 4398046511104 by omega)]
    by_cases h6 : (addE x.1 y.1)[i]'(by rw [hl]; exact hi) > 60
    · simp only [if_pos h6]
      rw [if_neg (fun hall => by
        have := hall _ (by rw [ed]; exact List.mem_cons_self ..)
        omega)]
      exact Ev.now _
    · simp only [if_neg h6]
      have ih := times_l0 hx hy c d (i + 1) (by omega)
      rw [List.take_succ_eq_append_getElem (show i < (addE x.1 y.1).length by rw [hl]; exact hi)] at ih
      have ep : (∀ n ∈ (addE x.1 y.1).drop i, n ≤ 60) ↔ ∀ n ∈ (addE x.1 y.1).drop (i + 1), n ≤ 60 := by
        rw [ed]
        constructor
        · exact fun hall n hn => hall n (List.mem_cons_of_mem _ hn)
        · intro hall n hn
          rcases List.mem_cons.1 hn with rfl | hn
          · omega
          · exact hall n hn
      by_cases h9 : ∀ n ∈ (addE x.1 y.1).drop (i + 1), n ≤ 60
      · rw [if_pos h9] at ih
        rw [if_pos (ep.2 h9)]
        exact ih
      · rw [if_neg h9] at ih
        rw [if_neg (fun hh => h9 (ep.1 hh))]
        exact ih
/-- What times hands over. -/
def outT (x y : Ex × Int) : Int × List Int × Bool := if (∀ n ∈ addE x.1 y.1, n ≤ 60) ∧ x.2 * y.2 ≤ 1000000000000000 then (x.2 * y.2, addE x.1 y.1, true) else (0, [], false)
theorem tdiv_lt {x y : Int} (hx : 0 < x) (hy : 0 < y) : x > Int.tdiv 1000000000000000 y ↔ 1000000000000000 < x * y := by
  rw [Int.tdiv_eq_ediv_of_nonneg (by omega)]
  constructor
  · intro h
    have h1 := Int.lt_ediv_add_one_mul_self (1000000000000000 : Int) hy
    have h2 : (1000000000000000 / y + 1) * y ≤ x * y := Int.mul_le_mul_of_nonneg_right (by omega) (by omega)
    omega
  · intro h
    by_cases h1 : 1000000000000000 / y < x
    · exact h1
    · have h2 : x * y ≤ 1000000000000000 / y * y := Int.mul_le_mul_of_nonneg_right (by omega) (by omega)
      have h3 := Int.ediv_mul_le (1000000000000000 : Int) (show y ≠ 0 by omega)
      omega
theorem times_ev {x y : Ex × Int} (hx : ExOk x.1) (hy : ExOk y.1) (hxc : 0 < x.2 ∧ x.2 ≤ 1000000000000000) (hyc : 0 < y.2 ∧ y.2 ≤ 1000000000000000) : Ev (fun k => tenetref24_times.f k x.2 x.1 y.2 y.1) (outT x y) := by
  have h0 : ¬ y.2 = 0 := by omega
  have hq : Int.tdiv 1000000000000000 y.2 ≤ 1000000000000000 ∧ 0 ≤ Int.tdiv 1000000000000000 y.2 := by
    rw [Int.tdiv_eq_ediv_of_nonneg (by omega)]
    have h1 := Int.ediv_le_self (a := 1000000000000000) y.2 (by omega)
    have h2 := Int.ediv_nonneg (a := 1000000000000000) (b := y.2) (by omega) (by omega)
    exact ⟨h1, h2⟩
  have hw : wrap64 (Int.tdiv 1000000000000000 y.2) = Int.tdiv 1000000000000000 y.2 := by unfold wrap64; omega
  unfold tenetref24_times.f
  simp only [if_neg h0, hw]
  unfold outT
  by_cases h1 : x.2 > Int.tdiv 1000000000000000 y.2
  · simp only [if_pos h1]
    rw [if_neg (fun h => by have := (tdiv_lt hxc.1 hyc.1).1 h1; omega)]
    exact Ev.now _
  · simp only [if_neg h1]
    have h2 : x.2 * y.2 ≤ 1000000000000000 := by
      by_cases h3 : 1000000000000000 < x.2 * y.2
      · exact absurd ((tdiv_lt hxc.1 hyc.1).2 h3) h1
      · omega
    have h4 : 0 < x.2 * y.2 := Int.mul_pos hxc.1 hyc.1
    have hw2 : wrap64 (x.2 * y.2) = x.2 * y.2 := by unfold wrap64; omega
    rw [hw2]
    have ih := times_l0 hx hy (x.2 * y.2) 8 0 rfl
    rw [List.drop_zero, List.take_zero] at ih
    by_cases h9 : ∀ n ∈ addE x.1 y.1, n ≤ 60
    · rw [if_pos h9] at ih
      rw [if_pos ⟨h9, h2⟩]
      exact ih
    · rw [if_neg h9] at ih
      rw [if_neg (fun h => h9 h.1)]
      exact ih
instance (t : Ex × Int) : Decidable (TermOk t) := by unfold TermOk; infer_instance
/-- A normal form as it comes: exponents up to 60, coefficients up to the bound, at most 200. -/
structure NfE (l : Po) : Prop where
  nf : Nf l
  top : Top l
  ex : ∀ t ∈ l, ExOk t.1
  len : l.length ≤ 200
theorem NfE.coef {l : Po} (h : NfE l) : ∀ t ∈ l, 0 < t.2 ∧ t.2 ≤ 1000000000000000 := fun t ht => ⟨h.nf.pos t ht, top_mem h.nf h.top t ht⟩
theorem NfE.terms {l : Po} (h : NfE l) : Terms l := fun t ht => ⟨h.nf.len t ht, h.coef t ht⟩
def stepM (out : Po) (t : Ex × Int) : Option Po := if TermOk t then intoF out t else none
def rowM (p : Ex × Int) : Po → Po → Option Po
  | [], out => some out
  | q :: b, out => (stepM out (mulT p q)).bind (rowM p b)
def allM (b : Po) : Po → Po → Option Po
  | [], out => some out
  | p :: a, out => (rowM p b out).bind (allM b a)
theorem outT_eq (x y : Ex × Int) : outT x y = if TermOk (mulT x y) then ((mulT x y).2, (mulT x y).1, true) else (0, [], false) := rfl
section
variable {a b : Po} (ha : NfE a) (hb : NfE b)
include ha hb
theorem mul_l1 {i : Nat} (hi : i < a.length) (hnext : ∀ out : Po, Nf out → Top out → out.length ≤ (i + 1) * b.length → Ev (fun k => tenetref24_mul.l0 k (toL a) (toL b) (toL out) ((i + 1 : Nat) : Int)) (outA (allM b (a.drop (i + 1)) out))) :
    ∀ (d j : Nat) (out : Po), d + j = b.length → Nf out → Top out → out.length ≤ i * b.length + j → Ev (fun k => tenetref24_mul.l1 k (toL a) (toL b) (toL out) (i : Int) (j : Int)) (outA ((rowM a[i] (b.drop j) out).bind (allM b (a.drop (i + 1)))))
  | 0, j, out, h, hn, ht, hl => by
    have hlb : (toL b).length = b.length := by simp
    have h1 : ¬ (j : Int) < ((toL b).length : Int) := by rw [hlb]; omega
    have hal := ha.len
    refine Ev.step (fun k => tenetref24_mul.l1.eq_2 ..) ?_
    simp only [if_neg h1, wrap_nat (show i < 4398046511104 by omega)]
    rw [List.drop_eq_nil_of_le (show b.length ≤ j by omega)]
    exact hnext out hn ht (by rw [Nat.add_mul, Nat.one_mul]; omega)
  | d + 1, j, out, h, hn, ht, hl => by
    have hla : (toL a).length = a.length := by simp
    have hlb : (toL b).length = b.length := by simp
    have hjb : j < b.length := by omega
    have hal := ha.len
    have hbl := hb.len
    have h1 : (j : Int) < ((toL b).length : Int) := by rw [hlb]; omega
    have h2 : (0 : Int) ≤ (i : Int) := by omega
    have h3 : (i : Int) < ((toL a).length : Int) := by rw [hla]; omega
    have h4 : (0 : Int) ≤ (j : Int) := by omega
    have hmul : i * b.length ≤ 200 * 200 := Nat.mul_le_mul (by omega) hbl
    have hT := times_ev (x := a[i]) (y := b[j]) (ha.ex _ (List.getElem_mem hi)) (hb.ex _ (List.getElem_mem hjb)) (ha.coef _ (List.getElem_mem hi)) (hb.coef _ (List.getElem_mem hjb))
    refine Ev.step (fun k => tenetref24_mul.l1.eq_2 ..) ?_
    simp only [if_pos h1, if_pos h2, if_pos h3, if_pos h4, rd_toL a i hi, rd_toL b j hjb, wrap_nat (show j < 4398046511104 by omega)]
    refine Ev.bind hT ?_
    rw [List.drop_eq_getElem_cons hjb, outT_eq]
    by_cases hok : TermOk (mulT a[i] b[j])
    · have hlen8 : (mulT a[i] b[j]).1.length = 8 := addE_len (ha.nf.len _ (List.getElem_mem hi)) (hb.nf.len _ (List.getElem_mem hjb))
      have hpos : 0 < (mulT a[i] b[j]).2 := Int.mul_pos (ha.nf.pos _ (List.getElem_mem hi)) (hb.nf.pos _ (List.getElem_mem hjb))
      rw [if_pos hok]
      simp only [if_true]
      refine Ev.bind (into_ev (L := out) (t := mulT a[i] b[j]) hn (top_mem hn ht) (by omega) hlen8 hpos hok.2) ?_
      have es : rowM a[i] (b[j] :: b.drop (j + 1)) out = (intoF out (mulT a[i] b[j])).bind (rowM a[i] (b.drop (j + 1))) := by
        show (stepM out (mulT a[i] b[j])).bind _ = _
        rw [stepM, if_pos hok]
      rw [es]
      cases e : intoF out (mulT a[i] b[j]) with
      | none => exact Ev.now _
      | some r =>
        obtain ⟨r1, r2, r3⟩ := intoF_some hn ht hlen8 hpos e
        exact mul_l1 hi hnext d (j + 1) r (by omega) r1 r2 (by omega)
    · have es : rowM a[i] (b[j] :: b.drop (j + 1)) out = none := by
        show (stepM out (mulT a[i] b[j])).bind _ = _
        rw [stepM, if_neg hok]
        rfl
      rw [if_neg hok, es]
      exact Ev.now _
theorem mul_l0 : ∀ (d i : Nat) (out : Po), d + i = a.length → Nf out → Top out → out.length ≤ i * b.length → Ev (fun k => tenetref24_mul.l0 k (toL a) (toL b) (toL out) (i : Int)) (outA (allM b (a.drop i) out))
  | 0, i, out, h, hn, ht, hl => by
    have hla : (toL a).length = a.length := by simp
    have hlo : (toL out).length = out.length := by simp
    have h1 : ¬ (i : Int) < ((toL a).length : Int) := by rw [hla]; omega
    refine Ev.step (fun k => tenetref24_mul.l0.eq_2 ..) ?_
    simp only [if_neg h1]
    rw [List.drop_eq_nil_of_le (show a.length ≤ i by omega), hlo]
    exact Ev.now _
  | d + 1, i, out, h, hn, ht, hl => by
    have hla : (toL a).length = a.length := by simp
    have hi : i < a.length := by omega
    have h1 : (i : Int) < ((toL a).length : Int) := by rw [hla]; omega
    refine Ev.step (fun k => tenetref24_mul.l0.eq_2 ..) ?_
    simp only [if_pos h1]
    have h2 := mul_l1 ha hb hi (fun o q1 q2 q3 => mul_l0 d (i + 1) o (by omega) q1 q2 q3) b.length 0 out (by omega) hn ht (by omega)
    rw [List.drop_zero] at h2
    rw [List.drop_eq_getElem_cons hi]
    exact h2
end
theorem top_nil : Top [] := fun e => by show (0 : Int) ≤ _; omega
theorem mul_ev {a b : Po} (ha : NfE a) (hb : NfE b) : Ev (fun k => tenetref24_mul.f k (toL a) (toL b)) (outA (allM b a [])) := by
  have h1 := mul_l0 ha hb a.length 0 [] (by omega) Nf.nil top_nil (by simp)
  rw [List.drop_zero] at h1
  exact h1
theorem rowM_eq (p : Ex × Int) : ∀ (b out : Po), rowM p b out = if ∀ t ∈ mulL p b, TermOk t then intoAll out (mulL p b) else none
  | [], out => by
    rw [if_pos (fun t ht => by cases ht)]
    rfl
  | q :: b, out => by
    show (stepM out (mulT p q)).bind (rowM p b) = _
    have em : mulL p (q :: b) = mulT p q :: mulL p b := rfl
    rw [em]
    by_cases h1 : TermOk (mulT p q)
    · rw [stepM, if_pos h1]
      by_cases h2 : ∀ t ∈ mulL p b, TermOk t
      · rw [if_pos (fun t ht => (List.mem_cons.1 ht).elim (fun e => e ▸ h1) (h2 t)), intoAll_cons]
        congr 1
        funext r
        rw [rowM_eq p b r, if_pos h2]
      · rw [if_neg (fun h => h2 fun t ht => h t (List.mem_cons_of_mem _ ht))]
        cases intoF out (mulT p q) with
        | none => rfl
        | some r =>
          show rowM p b r = none
          rw [rowM_eq p b r, if_neg h2]
    · rw [stepM, if_neg h1, if_neg (fun h => h1 (h _ (List.mem_cons_self ..)))]
      rfl
theorem intoAll_append (l : Po) (a b : Po) : intoAll l (a ++ b) = (intoAll l a).bind fun r => intoAll r b := by
  unfold intoAll
  rw [List.foldlM_append]
  rfl
theorem allM_eq (b : Po) : ∀ (a out : Po), allM b a out = if ∀ t ∈ prodT a b, TermOk t then intoAll out (prodT a b) else none
  | [], out => by
    rw [if_pos (fun t ht => by cases ht)]
    rfl
  | p :: a, out => by
    show (rowM p b out).bind (allM b a) = _
    rw [prodT_cons, rowM_eq]
    by_cases h1 : ∀ t ∈ mulL p b, TermOk t
    · rw [if_pos h1]
      by_cases h2 : ∀ t ∈ prodT a b, TermOk t
      · rw [if_pos (fun t ht => (List.mem_append.1 ht).elim (h1 t) (h2 t)), intoAll_append]
        congr 1
        funext r
        rw [allM_eq b a r, if_pos h2]
      · rw [if_neg (fun h => h2 fun t ht => h t (List.mem_append_right _ ht))]
        cases intoAll out (mulL p b) with
        | none => rfl
        | some r =>
          show allM b a r = none
          rw [allM_eq b a r, if_neg h2]
    · rw [if_neg h1, if_neg (fun h => h1 fun t ht => h t (List.mem_append_left _ ht))]
      rfl
/-- An expression with its form. -/
inductive Fm : S24 → Prop
  | num {n : Int} : 0 ≤ n → n ≤ 1000000 → Fm ⟨1, n, []⟩
  | var {n : Int} : 0 ≤ n → n < 8 → Fm ⟨2, n, []⟩
  | add {a b : S24} : Fm a → Fm b → Fm ⟨3, 0, [a, b]⟩
  | mul {a b : S24} : Fm a → Fm b → Fm ⟨4, 0, [a, b]⟩
def few (r : Option Po) : Option Po := r.bind fun l => if l.length ≤ 200 then some l else none
def addF (x y : Po) : Option Po := few (intoAll x y)
def mulF (x y : Po) : Option Po := few (allM y x [])
def zeros8 : Ex := List.replicate 8 0
def numF (n : Int) : Po := if n = 0 then [] else [(zeros8, n)]
def varF (n : Int) : Po := [(zeros8.set n.toNat 1, 1)]
/-- The normal form, where there is one. -/
inductive Nr : S24 → Option Po → Prop
  | num {n : Int} : Nr ⟨1, n, []⟩ (some (numF n))
  | var {n : Int} : Nr ⟨2, n, []⟩ (some (varF n))
  | add {a b : S24} {x y : Po} : Nr a (some x) → Nr b (some y) → Nr ⟨3, 0, [a, b]⟩ (addF x y)
  | mul {a b : S24} {x y : Po} : Nr a (some x) → Nr b (some y) → Nr ⟨4, 0, [a, b]⟩ (mulF x y)
  | left {op : Int} {a b : S24} : op = 3 ∨ op = 4 → Nr a none → Nr ⟨op, 0, [a, b]⟩ none
  | right {op : Int} {a b : S24} {x : Po} : op = 3 ∨ op = 4 → Nr a (some x) → Nr b none → Nr ⟨op, 0, [a, b]⟩ none
theorem few_some {r : Option Po} {l : Po} (h : few r = some l) : r = some l ∧ l.length ≤ 200 := by
  unfold few at h
  cases r with
  | none => cases h
  | some x =>
    simp only [Option.bind_some] at h
    split at h
    · cases h
      exact ⟨rfl, by assumption⟩
    · cases h
/-- What is handed over, by the answer. -/
def Out (L : List S74) (b : Bool) (r : Option Po) : Prop := b = r.isSome ∧ ∀ l, r = some l → L = toL l
theorem out_few (r : Option Po) : Out (outA r).1 (outA r).2 (few r) := by
  cases r with
  | none => exact ⟨rfl, fun l h => by cases h⟩
  | some x =>
    by_cases h : x.length ≤ 200
    · have e : few (some x) = some x := if_pos h
      rw [e]
      exact ⟨decide_eq_true (show ((x.length : Nat) : Int) ≤ 200 by omega), fun l hl => by cases hl; rfl⟩
    · have e : few (some x) = none := if_neg h
      rw [e]
      exact ⟨decide_eq_false (show ¬ ((x.length : Nat) : Int) ≤ 200 by omega), fun l hl => by cases hl⟩
theorem nfe_nil : NfE [] := ⟨Nf.nil, top_nil, (fun t h => by cases h), by simp⟩
theorem nfe_one {e : Ex} {c : Int} (he : ExOk e) (h0 : 0 < c) (h1 : c ≤ 1000000000000000) : NfE [(e, c)] := by
  refine ⟨⟨List.pairwise_singleton _ _, fun t ht => ?_, fun t ht => ?_⟩, fun x => ?_, fun t ht => ?_, by simp⟩
  · rw [List.mem_singleton.1 ht]; exact h0
  · rw [List.mem_singleton.1 ht]; exact he.1
  · show (if e = x then c else 0) + 0 ≤ _
    split <;> omega
  · rw [List.mem_singleton.1 ht]; exact he
theorem ex_zeros : ExOk zeros8 := ⟨by simp [zeros8], fun n hn => by
  rw [List.eq_of_mem_replicate hn]
  omega⟩
theorem ex_unit (i : Nat) : ExOk (zeros8.set i 1) := ⟨by simp [zeros8], fun n hn => by
  rcases List.mem_or_eq_of_mem_set hn with h | h
  · exact ex_zeros.2 n h
  · omega⟩
theorem intoAll_ex {ts : Po} (h1 : ∀ t ∈ ts, ExOk t.1) : ∀ {l r : Po}, (∀ t ∈ l, ExOk t.1) → intoAll l ts = some r → ∀ t ∈ r, ExOk t.1 := by
  induction ts with
  | nil =>
    intro l r h e
    cases e
    exact h
  | cons t ts ih =>
    intro l r h e
    rw [intoAll_cons] at e
    obtain ⟨m, e1, e2⟩ := Option.bind_eq_some_iff.1 e
    refine ih (fun x hx => h1 x (List.mem_cons_of_mem _ hx)) (fun x hx => ?_) e2
    unfold intoF at e1
    split at e1
    · cases e1
    · cases e1
      rcases ins_mem hx with q | ⟨y, hy, q⟩
      · rw [q]; exact h1 t (List.mem_cons_self ..)
      · rw [← q]; exact h y hy
theorem intoAll_nf {ts : Po} (h1 : Terms ts) : ∀ {l r : Po}, Nf l → Top l → intoAll l ts = some r → Nf r ∧ Top r := by
  induction ts with
  | nil =>
    intro l r h ht e
    cases e
    exact ⟨h, ht⟩
  | cons t ts ih =>
    intro l r h ht e
    rw [intoAll_cons] at e
    obtain ⟨m, e1, e2⟩ := Option.bind_eq_some_iff.1 e
    obtain ⟨q1, q2, q3⟩ := h1 t (List.mem_cons_self ..)
    obtain ⟨r1, r2, _⟩ := intoF_some h ht q1 q2 e1
    exact ih (fun x hx => h1 x (List.mem_cons_of_mem _ hx)) r1 r2 e2
theorem addF_nfe {x y l : Po} (hx : NfE x) (hy : NfE y) (h : addF x y = some l) : NfE l := by
  obtain ⟨h1, h2⟩ := few_some h
  obtain ⟨q1, q2⟩ := intoAll_nf hy.terms hx.nf hx.top h1
  exact ⟨q1, q2, intoAll_ex hy.ex hx.ex h1, h2⟩
theorem mul_terms {x y : Po} (hx : NfE x) (hy : NfE y) (h : ∀ t ∈ prodT x y, TermOk t) : Terms (prodT x y) ∧ ∀ t ∈ prodT x y, ExOk t.1 := by
  obtain ⟨p1, p2⟩ := prodT_ok hx.nf hy.nf
  refine ⟨fun t ht => ⟨p1 t ht, p2 t ht, (h t ht).2⟩, fun t ht => ⟨p1 t ht, fun n hn => ⟨?_, (h t ht).1 n hn⟩⟩⟩
  obtain ⟨p, hp, q, hq, rfl⟩ := prodT_mem.1 ht
  obtain ⟨i, hi, rfl⟩ := List.getElem_of_mem hn
  have hl := addE_len (hx.nf.len p hp) (hy.nf.len q hq)
  have hi8 : i < 8 := by
    have : i < (addE p.1 q.1).length := hi
    omega
  have e := addE_get (hx.nf.len p hp) (hy.nf.len q hq) hi8
  have g : (mulT p q).1[i] = (addE p.1 q.1)[i]'(by omega) := rfl
  rw [g, e]
  have a1 := (hx.ex p hp).2 (p.1[i]'(by rw [hx.nf.len p hp]; exact hi8)) (List.getElem_mem _)
  have a2 := (hy.ex q hq).2 (q.1[i]'(by rw [hy.nf.len q hq]; exact hi8)) (List.getElem_mem _)
  omega
theorem mulF_nfe {x y l : Po} (hx : NfE x) (hy : NfE y) (h : mulF x y = some l) : NfE l := by
  obtain ⟨h1, h2⟩ := few_some h
  rw [allM_eq] at h1
  split at h1
  · rename_i hok
    obtain ⟨t1, t2⟩ := mul_terms hx hy hok
    obtain ⟨q1, q2⟩ := intoAll_nf t1 Nf.nil top_nil h1
    exact ⟨q1, q2, intoAll_ex t2 (fun t ht => by cases ht) h1, h2⟩
  · cases h1
theorem rd2 (a b : S24) : rd_T24 [a, b] 0 = a ∧ rd_T24 [a, b] 1 = b := ⟨rfl, rfl⟩
mutual
def nod : S24 → Nat
  | ⟨_, _, l⟩ => nods l + 1
def nods : List S24 → Nat
  | [] => 0
  | x :: l => nod x + nods l
end
mutual
def dep : S24 → Nat
  | ⟨_, _, l⟩ => deps l + 1
def deps : List S24 → Nat
  | [] => 0
  | x :: l => max (dep x) (deps l)
end
theorem nod_eq (e : S24) : nod e = nods e.f2 + 1 := by cases e; simp only [nod]
theorem dep_eq (e : S24) : dep e = deps e.f2 + 1 := by cases e; simp only [dep]
theorem nods_nil : nods [] = 0 := by simp only [nods]
theorem nods_cons (x : S24) (l : List S24) : nods (x :: l) = nod x + nods l := by simp only [nods]
theorem deps_nil : deps [] = 0 := by simp only [deps]
theorem deps_cons (x : S24) (l : List S24) : deps (x :: l) = max (dep x) (deps l) := by simp only [deps]
attribute [irreducible] nod nods dep deps
theorem nod_mem {x : S24} : ∀ {l : List S24}, x ∈ l → nod x ≤ nods l
  | y :: l, h => by
    simp only [nods_nil, nods_cons]
    rcases List.mem_cons.1 h with rfl | h
    · omega
    · have := nod_mem h
      omega
theorem dep_le : ∀ (N : Nat) (e : S24), nod e ≤ N → dep e ≤ nod e
  | 0, e, h => by rw [nod_eq] at h; omega
  | N + 1, e, h => by
    rw [nod_eq] at h
    rw [dep_eq, nod_eq]
    have : ∀ l : List S24, nods l ≤ N → deps l ≤ nods l := by
      intro l
      induction l with
      | nil => intro _; rw [deps_nil]; exact Nat.zero_le _
      | cons x l ih =>
        intro hl
        simp only [nods_nil, nods_cons, deps_nil, deps_cons] at hl ⊢
        have h1 := dep_le N x (by omega)
        have h2 := ih (by omega)
        omega
    have := this e.f2 (by omega)
    omega
theorem dep_nod (e : S24) : dep e ≤ nod e := dep_le _ e (Nat.le_refl _)
theorem rd24 (l : List S24) (i : Nat) (h : i < l.length) : rd_T24 l (i : Int) = l[i] := by
  unfold rd_T24
  rw [Int.toNat_natCast, List.getD_eq_getElem?_getD, List.getElem?_eq_getElem h]
  rfl
theorem mx_nat (a b : Nat) : mx (a : Int) (b : Int) = ((max a b : Nat) : Int) := by unfold mx; split <;> omega
/-- The program's sizeOf. -/
theorem sizeOf_all : ∀ (N : Nat) (e : S24), nod e ≤ N → N ≤ 100000 → Ev (fun k => ring_sizeOf.f k e.f0 e.f1 e.f2) ((nod e : Int), (dep e : Int))
  | 0, e, h, _ => by rw [nod_eq] at h; omega
  | N + 1, e, h, hN => by
    rw [nod_eq] at h
    have len_le : ∀ l : List S24, l.length ≤ nods l := by
      intro l
      induction l with
      | nil => exact Nat.zero_le _
      | cons x l ih => simp only [nods_cons, List.length_cons]; have := nod_eq x; omega
    have loop : ∀ (d i n dp : Nat), d + i = e.f2.length → n + nods (e.f2.drop i) ≤ N → dp ≤ n → Ev (fun k => ring_sizeOf.l0 k (n : Int) (dp : Int) e.f2 (e.f2.length : Int) (i : Int)) (((n + nods (e.f2.drop i) + 1 : Nat) : Int), ((max dp (deps (e.f2.drop i)) + 1 : Nat) : Int)) := by
      intro d
      induction d with
      | zero =>
        intro i n dp hd hn hdn
        have h1 : ¬ (i : Int) < (e.f2.length : Int) := by omega
        refine Ev.step (fun k => ring_sizeOf.l0.eq_2 ..) ?_
        simp only [if_neg h1]
        rw [List.drop_eq_nil_of_le (show e.f2.length ≤ i by omega)]
        simp only [nods_nil, nods_cons, deps_nil, deps_cons]
        rw [show wrap64 ((n : Int) + 1) = ((n + 0 + 1 : Nat) : Int) by simp only [wrap64]; omega, show wrap64 ((dp : Int) + 1) = ((max dp 0 + 1 : Nat) : Int) by simp only [wrap64]; omega]
        exact Ev.now _
      | succ d ih =>
        intro i n dp hd hn hdn
        have hlt : i < e.f2.length := by omega
        have h1 : (i : Int) < (e.f2.length : Int) := by omega
        have h0 : (0 : Int) ≤ (i : Int) := by omega
        have hl := len_le e.f2
        have e0 : e.f2.drop i = e.f2[i] :: e.f2.drop (i + 1) := List.drop_eq_getElem_cons hlt
        rw [e0] at hn ⊢
        simp only [nods_nil, nods_cons, deps_nil, deps_cons] at hn ⊢
        have hx := sizeOf_all N e.f2[i] (by omega) (by omega)
        refine Ev.step (fun k => ring_sizeOf.l0.eq_2 ..) ?_
        simp only [if_pos h1, if_pos h0, rd24 e.f2 i hlt]
        refine Ev.bind hx ?_
        have hdx := dep_nod e.f2[i]
        have := ih (i + 1) (n + nod e.f2[i]) (max dp (dep e.f2[i])) (by omega) (by omega) (by omega)
        simp only [mx_nat, show wrap64 ((n : Int) + (nod e.f2[i] : Int)) = ((n + nod e.f2[i] : Nat) : Int) by simp only [wrap64]; omega, show wrap64 ((i : Int) + 1) = ((i + 1 : Nat) : Int) by simp only [wrap64]; omega]
        rw [show n + (nod e.f2[i] + nods (e.f2.drop (i + 1))) = n + nod e.f2[i] + nods (e.f2.drop (i + 1)) by omega, show max dp (max (dep e.f2[i]) (deps (e.f2.drop (i + 1)))) = max (max dp (dep e.f2[i])) (deps (e.f2.drop (i + 1))) by omega]
        exact this
    have := loop e.f2.length 0 0 0 (by omega) (by rw [List.drop_zero]; omega) (by omega)
    rw [List.drop_zero] at this
    rw [nod_eq, dep_eq]
    refine Ev.step (fun k => ring_sizeOf.f.eq_2 ..) ?_
    rw [show nods e.f2 + 1 = 0 + nods e.f2 + 1 by omega, show deps e.f2 + 1 = max 0 (deps e.f2) + 1 by omega]
    exact this
theorem sizeOf_ev (e : S24) (h : nod e ≤ 100000) : Ev (fun k => ring_sizeOf.f k e.f0 e.f1 e.f2) ((nod e : Int), (dep e : Int)) := sizeOf_all _ e h (Nat.le_refl _)
/-- An expression with its form, its numbers whatever. -/
inductive Fu : S24 → Prop
  | num {n : Int} : 0 ≤ n → Fu ⟨1, n, []⟩
  | var {n : Int} : 0 ≤ n → n < 8 → Fu ⟨2, n, []⟩
  | add {a b : S24} : Fu a → Fu b → Fu ⟨3, 0, [a, b]⟩
  | mul {a b : S24} : Fu a → Fu b → Fu ⟨4, 0, [a, b]⟩
mutual
def rgt : S24 → Bool
  | ⟨op, n, l⟩ => !(decide (op = 1) && decide (n > 1000000)) && rgts l
def rgts : List S24 → Bool
  | [] => true
  | x :: l => rgt x && rgts l
end
theorem rgt_eq (e : S24) : rgt e = (!(decide (e.f0 = 1) && decide (e.f1 > 1000000)) && rgts e.f2) := by cases e; simp only [rgt]
theorem fm_iff {e : S24} : Fm e ↔ Fu e ∧ rgt e = true := by
  constructor
  · intro h
    induction h with
    | num h0 h1 => exact ⟨.num h0, by simp [rgt, rgts]; omega⟩
    | var h0 h1 => exact ⟨.var h0 h1, by simp [rgt, rgts]⟩
    | add _ _ iha ihb => exact ⟨.add iha.1 ihb.1, by simp [rgt, rgts, iha.2, ihb.2]⟩
    | mul _ _ iha ihb => exact ⟨.mul iha.1 ihb.1, by simp [rgt, rgts, iha.2, ihb.2]⟩
  · rintro ⟨h, hr⟩
    induction h with
    | num h0 => exact .num h0 (by simp [rgt, rgts] at hr; omega)
    | var h0 h1 => exact .var h0 h1
    | add _ _ iha ihb =>
      simp [rgt, rgts] at hr
      exact .add (iha hr.1) (ihb hr.2)
    | mul _ _ iha ihb =>
      simp [rgt, rgts] at hr
      exact .mul (iha hr.1) (ihb hr.2)
theorem fu_inv {op n : Int} {l : List S24} : Fu ⟨op, n, l⟩ ↔ (op = 1 ∧ 0 ≤ n ∧ l = []) ∨ (op = 2 ∧ 0 ≤ n ∧ n < 8 ∧ l = []) ∨ ((op = 3 ∨ op = 4) ∧ n = 0 ∧ ∃ a b, l = [a, b] ∧ Fu a ∧ Fu b) := by
  constructor
  · intro h
    cases h with
    | num h => exact .inl ⟨rfl, h, rfl⟩
    | var h g => exact .inr (.inl ⟨rfl, h, g, rfl⟩)
    | add h g => exact .inr (.inr ⟨.inl rfl, rfl, _, _, rfl, h, g⟩)
    | mul h g => exact .inr (.inr ⟨.inr rfl, rfl, _, _, rfl, h, g⟩)
  · rintro (⟨rfl, h, rfl⟩ | ⟨rfl, h, g, rfl⟩ | ⟨rfl | rfl, rfl, a, b, rfl, h, g⟩)
    · exact .num h
    · exact .var h g
    · exact .add h g
    · exact .mul h g
theorem two_len {l : List S24} (h : (l.length : Int) = 2) : ∃ a b, l = [a, b] := by
  match l, h with
  | [a, b], _ => exact ⟨a, b, rfl⟩
  | [], h => simp at h
  | [a], h => simp at h
  | a :: b :: c :: l, h => simp only [List.length_cons] at h; omega
theorem nil_len {l : List S24} : (l.length : Int) = 0 ↔ l = [] := by
  cases l with
  | nil => simp
  | cons a l => simp only [List.length_cons, reduceCtorEq, iff_false]; omega
theorem formedP_two {op n : Int} {l : List S24} (ih : ∀ x ∈ l, ∃ b, (b = true ↔ Fu x) ∧ Ev (fun k => ring_formed.f k x.f0 x.f1 x.f2) b) :
    ∃ b, (b = true ↔ n = 0 ∧ ∃ x y, l = [x, y] ∧ Fu x ∧ Fu y) ∧ Ev (fun k => ring_formed.j0 k true op n l) b := by
  by_cases h2 : (l.length : Int) = 2
  · by_cases hn : n = 0
    · obtain ⟨x, y, rfl⟩ := two_len h2
      obtain ⟨b1, e1, v1⟩ := ih x (by simp)
      obtain ⟨b2, e2, v2⟩ := ih y (by simp)
      have p0 : (0 : Int) < (([x, y] : List S24).length : Int) := by simp
      have p1 : (1 : Int) < (([x, y] : List S24).length : Int) := by simp
      refine ⟨b1 && b2, ?_, ?_⟩
      · rw [Bool.and_eq_true, e1, e2]
        constructor
        · rintro ⟨a, b⟩
          exact ⟨hn, x, y, rfl, a, b⟩
        · rintro ⟨_, x2, y2, q, a, b⟩
          injection q with q1 q2
          injection q2 with q2
          subst q1 q2
          exact ⟨a, b⟩
      · refine Ev.step (fun k => ring_formed.j0.eq_2 ..) ?_
        simp only [if_true, if_pos h2, if_pos hn, if_pos p0, (rd2 x y).1]
        refine Ev.bind v1 ?_
        cases b1 with
        | false =>
          simp only [Bool.false_eq_true, if_false, Bool.false_and]
          exact Ev.now _
        | true =>
          simp only [if_true, if_pos p1, (rd2 x y).2, Bool.true_and]
          refine Ev.bind v2 ?_
          exact Ev.now _
    · refine ⟨false, ⟨fun h => (by cases h), fun h => absurd h.1 hn⟩, ?_⟩
      refine Ev.step (fun k => ring_formed.j0.eq_2 ..) ?_
      simp only [if_true, if_pos h2, if_neg hn]
      exact Ev.now _
  · refine ⟨false, ⟨fun h => (by cases h), ?_⟩, ?_⟩
    · rintro ⟨_, x, y, rfl, _⟩
      exact absurd (by simp) h2
    · refine Ev.step (fun k => ring_formed.j0.eq_2 ..) ?_
      simp only [if_true, if_neg h2]
      exact Ev.now _
theorem formedP_all : ∀ (N : Nat) (e : S24), nod e ≤ N → ∃ b, (b = true ↔ Fu e) ∧ Ev (fun k => ring_formed.f k e.f0 e.f1 e.f2) b
  | 0, e, h => by rw [nod_eq] at h; omega
  | N + 1, ⟨op, n, l⟩, h => by
    rw [nod_eq] at h
    have ih : ∀ x ∈ l, ∃ b, (b = true ↔ Fu x) ∧ Ev (fun k => ring_formed.f k x.f0 x.f1 x.f2) b := fun x hx => formedP_all N x (by have := nod_mem hx; simp only at h; omega)
    obtain ⟨b2, e2, v2⟩ := formedP_two (op := op) (n := n) ih
    simp only [fu_inv]
    by_cases h1 : op = 1
    · by_cases hl : (l.length : Int) = 0
      · refine ⟨decide (n ≥ 0), ?_, ?_⟩
        · rw [decide_eq_true_eq]
          have := nil_len.1 hl
          constructor
          · exact fun h => .inl ⟨h1, h, this⟩
          · rintro (⟨_, h, _⟩ | ⟨h, _⟩ | ⟨h, _⟩)
            · exact h
            · omega
            · omega
        · refine Ev.step (fun k => ring_formed.f.eq_2 ..) ?_
          simp only [if_pos h1, if_pos hl]
          exact Ev.now _
      · refine ⟨false, ⟨fun h => (by cases h), ?_⟩, ?_⟩
        · rintro (⟨_, _, h⟩ | ⟨h, _⟩ | ⟨h, _⟩)
          · exact absurd (nil_len.2 h) hl
          · omega
          · omega
        · refine Ev.step (fun k => ring_formed.f.eq_2 ..) ?_
          simp only [if_pos h1, if_neg hl]
          exact Ev.now _
    · by_cases h3 : op = 2
      · by_cases hl : (l.length : Int) = 0
        · have hln := nil_len.1 hl
          by_cases hn : n ≥ 0
          · refine ⟨decide (n < 8), ?_, ?_⟩
            · rw [decide_eq_true_eq]
              constructor
              · exact fun h => .inr (.inl ⟨h3, hn, h, hln⟩)
              · rintro (⟨h, _⟩ | ⟨_, _, h, _⟩ | ⟨h, _⟩)
                · omega
                · exact h
                · omega
            · refine Ev.step (fun k => ring_formed.f.eq_2 ..) ?_
              simp only [if_neg h1, if_pos h3, if_pos hl, if_pos hn]
              exact Ev.now _
          · refine ⟨false, ⟨fun h => (by cases h), ?_⟩, ?_⟩
            · rintro (⟨h, _⟩ | ⟨_, h, _, _⟩ | ⟨h, _⟩)
              · omega
              · omega
              · omega
            · refine Ev.step (fun k => ring_formed.f.eq_2 ..) ?_
              simp only [if_neg h1, if_pos h3, if_pos hl, if_neg hn]
              exact Ev.now _
        · refine ⟨false, ⟨fun h => (by cases h), ?_⟩, ?_⟩
          · rintro (⟨h, _⟩ | ⟨_, _, _, h⟩ | ⟨h, _⟩)
            · omega
            · exact absurd (nil_len.2 h) hl
            · omega
          · refine Ev.step (fun k => ring_formed.f.eq_2 ..) ?_
            simp only [if_neg h1, if_pos h3, if_neg hl]
            exact Ev.now _
      · by_cases h4 : op = 3
        · refine ⟨b2, ?_, ?_⟩
          · rw [e2]
            constructor
            · exact fun h => .inr (.inr ⟨.inl h4, h⟩)
            · rintro (⟨h, _⟩ | ⟨h, _⟩ | ⟨_, h⟩)
              · omega
              · omega
              · exact h
          · refine Ev.step (fun k => ring_formed.f.eq_2 ..) ?_
            simp only [if_neg h1, if_neg h3, if_pos h4, show (op == 3) = true from beq_iff_eq.2 h4]
            exact v2
        · by_cases h5 : op = 4
          · refine ⟨b2, ?_, ?_⟩
            · rw [e2]
              constructor
              · exact fun h => .inr (.inr ⟨.inr h5, h⟩)
              · rintro (⟨h, _⟩ | ⟨h, _⟩ | ⟨_, h⟩)
                · omega
                · omega
                · exact h
            · refine Ev.step (fun k => ring_formed.f.eq_2 ..) ?_
              simp only [if_neg h1, if_neg h3, if_neg h4, show (op == 4) = true from beq_iff_eq.2 h5]
              exact v2
          · refine ⟨false, ⟨fun h => (by cases h), ?_⟩, ?_⟩
            · rintro (⟨h, _⟩ | ⟨h, _⟩ | ⟨h, _⟩) <;> omega
            · refine Ev.step (fun k => ring_formed.f.eq_2 ..) ?_
              simp only [if_neg h1, if_neg h3, if_neg h4, show (op == 4) = false from beq_false_of_ne h5]
              refine Ev.step (fun k => ring_formed.j0.eq_2 ..) ?_
              simp only [Bool.false_eq_true, if_false]
              exact Ev.now _
theorem formedP_ev (e : S24) : ∃ b, (b = true ↔ Fu e) ∧ Ev (fun k => ring_formed.f k e.f0 e.f1 e.f2) b := formedP_all _ e (Nat.le_refl _)
/-- A valid expression. -/
def Vd (e : S24) : Prop := nod e ≤ 60 ∧ dep e ≤ 12 ∧ Fm e
end
end Go.Proofs.Ytlidibbdacohaaa.R
