/- Plain law: the reference's rounds tell what a search tells. -/
import Derived.Test.YtegejpcglabhbaaGNs
import Derived.Test.YtegejpcglabhbaaGHl
namespace Go.Proofs.Ytegejpcglabhbaa.G
open Go.RowKit Go.Proofs.YtegejpcglabhbaaW.PrintWords Go.Proofs.YtegejpcglabhbaaW.PrintLast Go.Proofs.YtegejpcglabhbaaW.PrintMore
set_option linter.unusedVariables false
set_option linter.unusedSimpArgs false

def toE (a : S105) : S108 := ⟨a.f0, a.f1, a.f2⟩
def isR (out : List S94) (v : Nat) : Bool := (out.getD v z94).f0
def dR (out : List S94) (v : Nat) : Int := (out.getD v z94).f1
structure RI (n : Nat) (E : List S105) (s : Nat) (out : List S94) (B : Nat) : Prop where
  len : out.length = n + 1
  start : isR out s = true ∧ 0 ≤ dR out s
  walk : ∀ v, v ≤ n → isR out v = true → Walk E s v (dR out v)
  bnd : ∀ v, v ≤ n → isR out v = true → -(1000 * (B : Int)) ≤ dR out v ∧ dR out v ≤ 1000 * (B : Int)
  unk : ∀ v, isR out v = false → dR out v = 0
def Fits (out : List S94) (a : S105) : Prop := isR out a.f0.toNat = true → isR out a.f1.toNat = true ∧ dR out a.f0.toNat + a.f2 ≤ dR out a.f1.toNat
section
variable {n s : Nat} {E : List S105} {out : List S94} {B : Nat} {a : S105}
theorem RI.more (h : RI n E s out B) {B2 : Nat} (hB : B ≤ B2) : RI n E s out B2 := { h with bnd := fun v hv hk => by have := h.bnd v hv hk; omega }
theorem set_out (h : RI n E s out B) (t : Nat) (ht : t ≤ n) (z : Int) (v : Nat) : isR (out.set t ⟨true, z⟩) v = (if v = t then true else isR out v) ∧ dR (out.set t ⟨true, z⟩) v = (if v = t then z else dR out v) := by
  unfold isR dR
  rw [gset _ _ _ _ _ (by have := h.len; omega)]
  split <;> exact ⟨rfl, rfl⟩
theorem lgo_cons (L : List S105) (m : Bool) : lgo ((a :: L).map toE) out m = if isR out a.f0.toNat = true ∧ (isR out a.f1.toNat = false ∨ dR out a.f1.toNat < wrap64 (dR out a.f0.toNat + a.f2))
    then lgo (L.map toE) (out.set a.f1.toNat ⟨true, wrap64 (dR out a.f0.toNat + a.f2)⟩) true else lgo (L.map toE) out m := rfl
theorem RI.wrap (h : RI n E s out B) (hE : ArcsOk n E) (ha : a ∈ E) (hB : B ≤ 1000000000000) (hk : isR out a.f0.toNat = true) : wrap64 (dR out a.f0.toNat + a.f2) = dR out a.f0.toNat + a.f2 := by
  have h1 := hE a ha
  have h2 := h.bnd a.f0.toNat (by omega) hk
  unfold wrap64
  omega
theorem lgo_spec (hE : ArcsOk n E) : ∀ (L : List S105) (out : List S94) (m : Bool) (B : Nat), (∀ a ∈ L, a ∈ E) → RI n E s out B → B + L.length ≤ 1000000000000 →
    RI n E s (lgo (L.map toE) out m).1 (B + L.length) ∧ (∀ v, isR out v = true → isR (lgo (L.map toE) out m).1 v = true ∧ dR out v ≤ dR (lgo (L.map toE) out m).1 v) ∧
    ((lgo (L.map toE) out m).2 = false → m = false ∧ (lgo (L.map toE) out m).1 = out ∧ ∀ a ∈ L, Fits out a) ∧
    (∀ a ∈ L, isR out a.f0.toNat = true → isR (lgo (L.map toE) out m).1 a.f1.toNat = true ∧ dR out a.f0.toNat + a.f2 ≤ dR (lgo (L.map toE) out m).1 a.f1.toNat) := by
  intro L
  induction L with
  | nil =>
    intro out m B _ h hB
    exact ⟨h, fun v hv => ⟨hv, Int.le_refl _⟩, fun h => ⟨h, rfl, fun a ha => by cases ha⟩, fun a ha => by cases ha⟩
  | cons a L ih =>
    intro out m B hL h hB
    have ha := hL a List.mem_cons_self
    have hL2 := fun b hb => hL b (List.mem_cons_of_mem _ hb)
    have hb := hE a ha
    simp only [List.length_cons] at hB
    rw [lgo_cons, List.length_cons]
    by_cases hc : isR out a.f0.toNat = true ∧ (isR out a.f1.toNat = false ∨ dR out a.f1.toNat < wrap64 (dR out a.f0.toNat + a.f2))
    · rw [if_pos hc]
      have hw := h.wrap hE ha (by omega) hc.1
      rw [hw]
      have hso := set_out h a.f1.toNat (by omega) (dR out a.f0.toNat + a.f2)
      have hstep : ∀ v, isR out v = true → isR (out.set a.f1.toNat ⟨true, dR out a.f0.toNat + a.f2⟩) v = true ∧ dR out v ≤ dR (out.set a.f1.toNat ⟨true, dR out a.f0.toNat + a.f2⟩) v := fun v hv => by
        rw [(hso v).1, (hso v).2]
        by_cases e : v = a.f1.toNat
        · rw [if_pos e, if_pos e]
          refine ⟨rfl, ?_⟩
          rcases hc.2 with h2 | h2
          · rw [← e, hv] at h2; cases h2
          · rw [hw, ← e] at h2; omega
        · rw [if_neg e, if_neg e]
          exact ⟨hv, Int.le_refl _⟩
      have h1 : RI n E s (out.set a.f1.toNat ⟨true, dR out a.f0.toNat + a.f2⟩) (B + 1) := by
        refine ⟨by rw [List.length_set]; exact h.len, ?_, ?_, ?_, ?_⟩
        · have := hstep s h.start.1
          have := h.start.2
          exact ⟨(hstep s h.start.1).1, by omega⟩
        · intro v hv hk
          rw [(hso v).1] at hk
          rw [(hso v).2]
          by_cases e : v = a.f1.toNat
          · rw [if_pos e, e]
            exact .snoc (h.walk a.f0.toNat (by omega) hc.1) ha (by omega) (by omega)
          · rw [if_neg e] at hk ⊢
            exact h.walk v hv hk
        · intro v hv hk
          rw [(hso v).1] at hk
          rw [(hso v).2]
          by_cases e : v = a.f1.toNat
          · rw [if_pos e]
            have := h.bnd a.f0.toNat (by omega) hc.1
            omega
          · rw [if_neg e] at hk ⊢
            have := h.bnd v hv hk
            omega
        · intro v hk
          rw [(hso v).1] at hk
          rw [(hso v).2]
          by_cases e : v = a.f1.toNat
          · rw [if_pos e] at hk; cases hk
          · rw [if_neg e] at hk ⊢
            exact h.unk v hk
      obtain ⟨i1, i2, i3, i4⟩ := ih _ true (B + 1) hL2 h1 (by omega)
      refine ⟨by rw [show B + (L.length + 1) = B + 1 + L.length by omega]; exact i1, ?_, fun hf => absurd (i3 hf).1 (by decide), ?_⟩
      · intro v hv
        have q := hstep v hv
        have q2 := i2 v q.1
        exact ⟨q2.1, by have := q.2; have := q2.2; omega⟩
      · intro b hb hk
        rcases List.mem_cons.1 hb with rfl | hb
        · have q := hso b.f1.toNat
          rw [if_pos rfl, if_pos rfl] at q
          have q2 := i2 b.f1.toNat q.1
          rw [q.2] at q2
          exact q2
        · have q := hstep b.f0.toNat hk
          have q2 := i4 b hb q.1
          exact ⟨q2.1, by have := q.2; have := q2.2; omega⟩
    · rw [if_neg hc]
      obtain ⟨i1, i2, i3, i4⟩ := ih out m B hL2 h (by omega)
      have hf : Fits out a := fun hk => by
        have hw := h.wrap hE ha (by omega) hk
        rw [hw] at hc
        cases e : isR out a.f1.toNat with
        | false => exact absurd ⟨hk, .inl e⟩ hc
        | true =>
          refine ⟨rfl, ?_⟩
          have : ¬ dR out a.f1.toNat < dR out a.f0.toNat + a.f2 := fun h2 => hc ⟨hk, .inr h2⟩
          omega
      refine ⟨i1.more (by omega), i2, fun h2 => ⟨(i3 h2).1, (i3 h2).2.1, fun b hb => ?_⟩, ?_⟩
      · rcases List.mem_cons.1 hb with rfl | hb
        · exact hf
        · exact (i3 h2).2.2 b hb
      · intro b hb hk
        rcases List.mem_cons.1 hb with rfl | hb
        · have q := hf hk
          have q2 := i2 _ q.1
          exact ⟨q2.1, by have := q.2; have := q2.2; omega⟩
        · exact i4 b hb hk
theorem lgo_fix (hE : ArcsOk n E) (h : RI n E s out B) (hB : B ≤ 1000000000000) : ∀ (L : List S105) (m : Bool), (∀ a ∈ L, a ∈ E) → (∀ a ∈ L, Fits out a) → lgo (L.map toE) out m = (out, m) := by
  intro L
  induction L with
  | nil => intro m _ _; rfl
  | cons a L ih =>
    intro m hL hf
    rw [lgo_cons, if_neg]
    · exact ih m (fun b hb => hL b (List.mem_cons_of_mem _ hb)) (fun b hb => hf b (List.mem_cons_of_mem _ hb))
    · rintro ⟨h1, h2⟩
      have h3 := hf a List.mem_cons_self h1
      rw [h.wrap hE (hL a List.mem_cons_self) hB h1] at h2
      rcases h2 with h2 | h2
      · rw [h3.1] at h2; cases h2
      · have := h3.2; omega
theorem lrounds_false : ∀ (es : List S108) (K : Nat) (out r : List S94), lrounds es K out = (r, false) → r = [] := by
  intro es K
  induction K with
  | zero => intro out r h; exact (Prod.mk.inj h).1.symm
  | succ K ih =>
    intro out r h
    simp only [lrounds] at h
    split at h
    · exact ih _ _ h
    · have := (Prod.mk.inj h).2; cases this
theorem lrounds_true (hE : ArcsOk n E) : ∀ (K : Nat) (out r : List S94) (B : Nat), RI n E s out B → B + K * E.length ≤ 1000000000000 → lrounds (E.map toE) K out = (r, true) → (∃ B2, RI n E s r B2) ∧ ∀ a ∈ E, Fits r a := by
  intro K
  induction K with
  | zero => intro out r B _ _ h; have := (Prod.mk.inj h).2; cases this
  | succ K ih =>
    intro out r B h hB hr
    rw [Nat.succ_mul] at hB
    obtain ⟨i1, i2, i3, i4⟩ := lgo_spec hE E out false B (fun a ha => ha) h (by omega)
    simp only [lrounds] at hr
    split at hr
    · exact ih _ r _ i1 (by omega) hr
    · rename_i hm
      obtain ⟨e, _⟩ := Prod.mk.inj hr
      obtain ⟨_, q2, q3⟩ := i3 (by simpa using hm)
      rw [← e, q2]
      exact ⟨⟨B, h⟩, q3⟩
theorem lrounds_ends (hE : ArcsOk n E) {is : Nat → Bool} {d : Nat → Int} (hd : Longest n E s is d) : ∀ (K j : Nat) (out : List S94) (B : Nat), RI n E s out B → B + K * E.length ≤ 1000000000000 → j ≤ n → n + 2 ≤ j + K →
    (∀ m, m ≤ j → ∀ v, Tight E d s m v → isR out v = true ∧ d v ≤ dR out v) → ∃ r, lrounds (E.map toE) K out = (r, true) := by
  intro K
  induction K with
  | zero => intro j out B _ _ h1 h2; omega
  | succ K ih =>
    intro j out B h hB hj hK ht
    rw [Nat.succ_mul] at hB
    obtain ⟨i1, i2, i3, i4⟩ := lgo_spec hE E out false B (fun a ha => ha) h (by omega)
    by_cases hm : (lgo (E.map toE) out false).2 = true
    · by_cases hjn : j = n
      · -- all are exact already: nothing changes
        exfalso
        have hex : ∀ v, v ≤ n → isR out v = true → is v = true ∧ dR out v = d v := fun v hv hk => by
          have h1 := hd.closed.walk (h.walk v hv hk)
          obtain ⟨m, hmn, htm⟩ := hd.tight v hv h1.1
          have h2 := ht m (by omega) v htm
          exact ⟨h1.1, by have := h1.2; have := h2.2; omega⟩
        have hin : ∀ v, v ≤ n → is v = true → isR out v = true := fun v hv hk => by
          obtain ⟨m, hmn, htm⟩ := hd.tight v hv hk
          exact (ht m (by omega) v htm).1
        have hfit : ∀ a ∈ E, Fits out a := fun a ha hk => by
          have hb := hE a ha
          have h1 := hex a.f0.toNat (by omega) hk
          have h2 := hd.closed.arc a ha h1.1
          have h3 := hin a.f1.toNat (by omega) h2.1
          have h4 := hex a.f1.toNat (by omega) h3
          exact ⟨h3, by rw [h1.2, h4.2]; exact h2.2⟩
        rw [lgo_fix hE h (by omega) E false (fun a ha => ha) hfit] at hm
        cases hm
      · simp only [lrounds]
        rw [if_pos hm]
        refine ih (j + 1) _ _ i1 (by omega) (by omega) (by omega) ?_
        intro m hm2 v htm
        cases htm with
        | nil =>
          have h1 := ht 0 (by omega) s .nil
          have h2 := i2 s h1.1
          exact ⟨h2.1, by have := h1.2; have := h2.2; omega⟩
        | @snoc m x t a hx ha h0 h1 he =>
          have h2 := ht m (by omega) x hx
          have h3 := i4 a ha (by rw [h0, Int.toNat_natCast]; exact h2.1)
          rw [h0, h1, Int.toNat_natCast, Int.toNat_natCast] at h3
          exact ⟨h3.1, by have := h3.2; have := h2.2; omega⟩
    · simp only [lrounds]
      rw [if_neg hm]
      exact ⟨_, rfl⟩
def outInit (n s : Nat) : List S94 := (List.replicate (n + 1) ⟨false, 0⟩).set s ⟨true, 0⟩
theorem outInit_is (hs : s ≤ n) (v : Nat) : isR (outInit n s) v = (if v = s then true else false) ∧ dR (outInit n s) v = 0 := by
  unfold isR dR outInit
  rw [gset _ _ _ _ _ (by rw [List.length_replicate]; omega)]
  split
  · exact ⟨rfl, rfl⟩
  · have h : (List.replicate (n + 1) (⟨false, 0⟩ : S94)).getD v z94 = ⟨false, 0⟩ := gets_rep _ _ _
    rw [h]
    exact ⟨rfl, rfl⟩
theorem outInit_RI (hs : s ≤ n) : RI n E s (outInit n s) 0 := by
  have h := outInit_is hs
  have h2 : ∀ v, isR (outInit n s) v = true → v = s := fun v hv => by
    rw [(h v).1] at hv
    split at hv
    · assumption
    · cases hv
  refine ⟨by simp [outInit], ⟨by rw [(h s).1, if_pos rfl], by rw [(h s).2]; exact Int.le_refl _⟩, ?_, ?_, fun v _ => (h v).2⟩
  · intro v hv hk
    rw [(h v).2, h2 v hk]
    exact .nil
  · intro v hv hk
    rw [(h v).2]
    omega
/-- The reference's answer beside the search's. -/
theorem ref_longest (hn : n ≤ 1200) (hE : ArcsOk n E) (hs : s ≤ n) (hlen : E.length ≤ 100000) (R : FRes) (hR : FarPost n s E R) :
    match R with
    | .loop _ => lrounds (E.map toE) (n + 2) (outInit n s) = ([], false)
    | .done st => Longest n E s (kn st) (sm st) ∧ ∃ out, lrounds (E.map toE) (n + 2) (outInit n s) = (out, true) ∧ out.length = n + 1 ∧ ∀ v, v ≤ n → isR out v = kn st v ∧ dR out v = if kn st v = true then sm st v else 0 := by
  have hB : 0 + (n + 2) * E.length ≤ 1000000000000 := by
    have : (n + 2) * E.length ≤ 1202 * 100000 := Nat.mul_le_mul (by omega) hlen
    omega
  have hini := outInit_RI (n := n) (E := E) hs
  have hclosed : ∀ r, lrounds (E.map toE) (n + 2) (outInit n s) = (r, true) → (∃ B2, RI n E s r B2) ∧ Closed E s (isR r) (dR r) := fun r hr => by
    obtain ⟨⟨B2, h1⟩, h2⟩ := lrounds_true hE (n + 2) _ r 0 hini hB hr
    exact ⟨⟨B2, h1⟩, h1.start.1, h1.start.2, fun a ha hk => h2 a ha hk⟩
  cases R with
  | loop l =>
    obtain ⟨_, hl⟩ := hR
    cases hq : lrounds (E.map toE) (n + 2) (outInit n s) with
    | mk r b =>
      cases b with
      | false => rw [lrounds_false _ _ _ _ hq]
      | true => exact ((hclosed r hq).2.no_loop hl).elim
  | done st =>
    obtain ⟨P, tm, T, hh⟩ := hR
    have hlong := hh.longest hn hE hs
    refine ⟨hlong, ?_⟩
    obtain ⟨r, hr⟩ := lrounds_ends hE hlong (n + 2) 0 (outInit n s) 0 hini hB (by omega) (by omega) (fun m hm v ht => by
      obtain rfl : m = 0 := by omega
      cases ht with
      | nil => exact ⟨hini.start.1, by rw [hlong.zero]; exact hini.start.2⟩)
    obtain ⟨⟨B2, hri⟩, hcl⟩ := hclosed r hr
    have hu := hlong.unique hcl hri.walk
    refine ⟨r, hr, hri.len, fun v hv => ⟨(hu v hv).1, ?_⟩⟩
    split
    · rename_i hk
      exact (hu v hv).2 hk
    · rename_i hk
      refine hri.unk v ?_
      rw [(hu v hv).1]
      simpa using hk
end
end Go.Proofs.Ytegejpcglabhbaa.G
