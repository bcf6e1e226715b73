
/- Plain mathematics: polynomials as lists of coefficients in order. Plain mathematics: sums and products of normal forms; sums over what is done of a list. No condition. -/
namespace Go.Proofs.Ytlidibbdacohaaa.R
section
set_option linter.unusedVariables false
set_option linter.unusedSimpArgs false

abbrev Ex := List Int
abbrev Po := List (Ex × Int)
/-- The order of exponents: the greater ones first. -/
def lessE : Ex → Ex → Bool
  | x :: a, y :: b => if x = y then lessE a b else decide (y < x)
  | _, _ => false
theorem lessE_irr : ∀ a : Ex, lessE a a = false
  | [] => rfl
  | x :: a => by simp [lessE, lessE_irr a]
theorem lessE_trans : ∀ {a b c : Ex}, lessE a b = true → lessE b c = true → lessE a c = true
  | [], _, _, h, _ => by simp [lessE] at h
  | _ :: _, [], _, h, _ => by simp [lessE] at h
  | _ :: _, _ :: _, [], _, h => by simp [lessE] at h
  | x :: a, y :: b, z :: c, h1, h2 => by
    simp only [lessE] at h1 h2 ⊢
    by_cases e1 : x = y
    · subst e1
      rw [if_pos rfl] at h1
      by_cases e2 : x = z
      · subst e2
        rw [if_pos rfl] at h2 ⊢
        exact lessE_trans h1 h2
      · rw [if_neg e2] at h2 ⊢
        exact h2
    · rw [if_neg e1] at h1
      have h1' := of_decide_eq_true h1
      by_cases e2 : y = z
      · subst e2
        rw [if_neg e1]
        exact h1
      · rw [if_neg e2] at h2
        have h2' := of_decide_eq_true h2
        rw [if_neg (by omega)]
        exact decide_eq_true (by omega)
theorem lessE_tri : ∀ {a b : Ex}, a.length = b.length → lessE a b = false → lessE b a = false → a = b
  | [], [], _, _, _ => rfl
  | [], _ :: _, h, _, _ => by simp at h
  | _ :: _, [], h, _, _ => by simp at h
  | x :: a, y :: b, h, h1, h2 => by
    simp only [lessE] at h1 h2
    by_cases e : x = y
    · subst e
      rw [if_pos rfl] at h1 h2
      rw [lessE_tri (Nat.succ.inj h) h1 h2]
    · rw [if_neg e] at h1
      rw [if_neg (fun h => e h.symm)] at h2
      have h1' := of_decide_eq_false h1
      have h2' := of_decide_eq_false h2
      omega
theorem lessE_asym {a b : Ex} (h : lessE a b = true) : lessE b a = false := by
  cases h2 : lessE b a with
  | false => rfl
  | true =>
    have := lessE_trans h h2
    rw [lessE_irr] at this
    cases this
/-- The coefficient at exponents, in a list of terms (sums where they stand more than once). -/
def co : Po → Ex → Int
  | [], _ => 0
  | t :: l, e => (if t.1 = e then t.2 else 0) + co l e
def Pos (l : Po) : Prop := ∀ t ∈ l, 0 < t.2
theorem co_nonneg {l : Po} (h : Pos l) (e : Ex) : 0 ≤ co l e := by
  induction l with
  | nil => exact Int.le_refl 0
  | cons t l ih =>
    have h1 := h t (List.mem_cons_self ..)
    have h2 := ih (fun x hx => h x (List.mem_cons_of_mem _ hx))
    simp only [co]
    split <;> omega
/-- A normal form: in order, no coefficient 0. -/
structure Nf (l : Po) : Prop where
  ord : l.Pairwise fun a b => lessE a.1 b.1 = true
  pos : Pos l
  len : ∀ t ∈ l, t.1.length = 8
theorem Nf.nil : Nf [] := ⟨.nil, (fun _ h => by cases h), (fun _ h => by cases h)⟩
theorem Nf.tail {t : Ex × Int} {l : Po} (h : Nf (t :: l)) : Nf l := ⟨(List.pairwise_cons.1 h.ord).2, fun x hx => h.pos x (List.mem_cons_of_mem _ hx), fun x hx => h.len x (List.mem_cons_of_mem _ hx)⟩
theorem co_zero {l : Po} {e : Ex} (h : ∀ t ∈ l, t.1 ≠ e) : co l e = 0 := by
  induction l with
  | nil => rfl
  | cons t l ih =>
    simp only [co]
    rw [if_neg (h t (List.mem_cons_self ..)), ih (fun x hx => h x (List.mem_cons_of_mem _ hx))]
    rfl
theorem Nf.head_ne {t : Ex × Int} {l : Po} (h : Nf (t :: l)) : ∀ x ∈ l, x.1 ≠ t.1 := fun x hx e => by
  have := (List.pairwise_cons.1 h.ord).1 x hx
  rw [e, lessE_irr] at this
  cases this
theorem Nf.co_mem {l : Po} (h : Nf l) {t : Ex × Int} (ht : t ∈ l) : co l t.1 = t.2 := by
  induction l with
  | nil => cases ht
  | cons x l ih =>
    simp only [co]
    rcases List.mem_cons.1 ht with rfl | ht
    · rw [if_pos rfl, co_zero (h.head_ne)]
      omega
    · rw [if_neg (fun e => h.head_ne t ht e.symm), ih h.tail ht]
      omega
theorem Nf.mem_iff {l : Po} (h : Nf l) (e : Ex) (c : Int) : (e, c) ∈ l ↔ co l e = c ∧ 0 < c := by
  constructor
  · intro hm
    exact ⟨h.co_mem hm, h.pos _ hm⟩
  · rintro ⟨h1, h2⟩
    induction l with
    | nil => simp only [co] at h1; omega
    | cons x l ih =>
      simp only [co] at h1
      by_cases e1 : x.1 = e
      · rw [if_pos e1, co_zero (by rw [← e1]; exact h.head_ne)] at h1
        have : x = (e, c) := by rw [← e1, ← h1]; simp
        rw [this]
        exact List.mem_cons_self ..
      · rw [if_neg e1] at h1
        exact List.mem_cons_of_mem _ (ih h.tail (by omega))
/-- Two normal forms with the same coefficients are one. -/
theorem Nf.ext : ∀ {a b : Po}, Nf a → Nf b → (∀ e, co a e = co b e) → a = b
  | [], [], _, _, _ => rfl
  | [], t :: b, _, hb, h => by
    have h1 := h t.1
    rw [hb.co_mem (List.mem_cons_self ..)] at h1
    have h2 := hb.pos t (List.mem_cons_self ..)
    simp only [co] at h1
    omega
  | t :: a, [], ha, _, h => by
    have h1 := h t.1
    rw [ha.co_mem (List.mem_cons_self ..)] at h1
    have h2 := ha.pos t (List.mem_cons_self ..)
    simp only [co] at h1
    omega
  | t :: a, u :: b, ha, hb, h => by
    have mt : t ∈ u :: b := by
      have := (hb.mem_iff t.1 t.2).2 ⟨by rw [← h]; exact ha.co_mem (List.mem_cons_self ..), ha.pos t (List.mem_cons_self ..)⟩
      exact this
    have mu : u ∈ t :: a := by
      have := (ha.mem_iff u.1 u.2).2 ⟨by rw [h]; exact hb.co_mem (List.mem_cons_self ..), hb.pos u (List.mem_cons_self ..)⟩
      exact this
    have e : t = u := by
      rcases List.mem_cons.1 mt with e | m1
      · exact e
      · rcases List.mem_cons.1 mu with e | m2
        · exact e.symm
        · have h1 := (List.pairwise_cons.1 hb.ord).1 t m1
          have h2 := (List.pairwise_cons.1 ha.ord).1 u m2
          rw [lessE_asym h1] at h2
          cases h2
    subst e
    rw [Nf.ext ha.tail hb.tail (fun e => by
      have := h e
      simp only [co] at this
      omega)]
/-- A term put into a normal form. -/
def ins : Po → Ex × Int → Po
  | [], t => [t]
  | x :: l, t => if lessE x.1 t.1 = true then x :: ins l t else if lessE t.1 x.1 = true then t :: x :: l else (x.1, x.2 + t.2) :: l
theorem ins_mem {t : Ex × Int} : ∀ {l : Po} {x : Ex × Int}, x ∈ ins l t → x.1 = t.1 ∨ ∃ y ∈ l, y.1 = x.1
  | [], x, h => .inl (by rw [List.mem_singleton.1 h])
  | y :: l, x, h => by
    simp only [ins] at h
    split at h
    · rcases List.mem_cons.1 h with rfl | h
      · exact .inr ⟨x, List.mem_cons_self .., rfl⟩
      · rcases ins_mem h with e | ⟨z, hz, e⟩
        · exact .inl e
        · exact .inr ⟨z, List.mem_cons_of_mem _ hz, e⟩
    · split at h
      · rcases List.mem_cons.1 h with rfl | h
        · exact .inl rfl
        · exact .inr ⟨x, h, rfl⟩
      · rcases List.mem_cons.1 h with rfl | h
        · exact .inr ⟨y, List.mem_cons_self .., rfl⟩
        · exact .inr ⟨x, List.mem_cons_of_mem _ h, rfl⟩
theorem ins_nf {t : Ex × Int} (ht : t.1.length = 8) (hp : 0 < t.2) : ∀ {l : Po}, Nf l → Nf (ins l t)
  | [], _ => ⟨List.pairwise_singleton _ _, fun x hx => by rw [List.mem_singleton.1 hx]; exact hp, fun x hx => by rw [List.mem_singleton.1 hx]; exact ht⟩
  | y :: l, h => by
    have hy := List.pairwise_cons.1 h.ord
    simp only [ins]
    split
    · rename_i h1
      have ih := ins_nf ht hp h.tail
      refine ⟨List.pairwise_cons.2 ⟨fun x hx => ?_, ih.ord⟩, fun x hx => ?_, fun x hx => ?_⟩
      · rcases ins_mem hx with e | ⟨z, hz, e⟩
        · rw [e]; exact h1
        · rw [← e]; exact hy.1 z hz
      · rcases List.mem_cons.1 hx with rfl | hx
        · exact h.pos _ (List.mem_cons_self ..)
        · exact ih.pos x hx
      · rcases List.mem_cons.1 hx with rfl | hx
        · exact h.len _ (List.mem_cons_self ..)
        · exact ih.len x hx
    · split
      · rename_i h2
        refine ⟨List.pairwise_cons.2 ⟨fun x hx => ?_, h.ord⟩, fun x hx => ?_, fun x hx => ?_⟩
        · rcases List.mem_cons.1 hx with rfl | hx
          · exact h2
          · exact lessE_trans h2 (hy.1 x hx)
        · rcases List.mem_cons.1 hx with rfl | hx
          · exact hp
          · exact h.pos x hx
        · rcases List.mem_cons.1 hx with rfl | hx
          · exact ht
          · exact h.len x hx
      · refine ⟨List.pairwise_cons.2 ⟨fun x hx => hy.1 x hx, hy.2⟩, fun x hx => ?_, fun x hx => ?_⟩
        · rcases List.mem_cons.1 hx with rfl | hx
          · have := h.pos y (List.mem_cons_self ..)
            show 0 < y.2 + t.2
            omega
          · exact h.pos x (List.mem_cons_of_mem _ hx)
        · rcases List.mem_cons.1 hx with rfl | hx
          · exact h.len y (List.mem_cons_self ..)
          · exact h.len x (List.mem_cons_of_mem _ hx)
theorem ins_co {t : Ex × Int} (ht : t.1.length = 8) (e : Ex) : ∀ {l : Po}, Nf l → co (ins l t) e = co l e + if t.1 = e then t.2 else 0
  | [], _ => by simp only [ins, co]; omega
  | y :: l, h => by
    simp only [ins]
    split
    · simp only [co]
      rw [ins_co ht e h.tail]
      omega
    · split
      · simp only [co]
        omega
      · rename_i h1 h2
        have e1 : y.1 = t.1 := lessE_tri (by rw [ht, h.len y (List.mem_cons_self ..)]) (by simpa using h1) (by simpa using h2)
        simp only [co]
        rw [e1]
        split <;> omega
theorem ins_len {t : Ex × Int} (ht : t.1.length = 8) : ∀ {l : Po}, Nf l → (ins l t).length = if co l t.1 = 0 then l.length + 1 else l.length
  | [], _ => by simp [ins, co]
  | y :: l, h => by
    have hy := List.pairwise_cons.1 h.ord
    simp only [ins]
    split
    · rename_i h1
      have n1 : y.1 ≠ t.1 := fun e => by rw [e, lessE_irr] at h1; cases h1
      have e : co (y :: l) t.1 = co l t.1 := by
        show (if y.1 = t.1 then y.2 else 0) + co l t.1 = _
        rw [if_neg n1]
        omega
      rw [e, List.length_cons, ins_len ht h.tail, List.length_cons]
      by_cases h0 : co l t.1 = 0
      · rw [if_pos h0, if_pos h0]
      · rw [if_neg h0, if_neg h0]
    · split
      · rename_i h1 h2
        have n1 : ∀ x ∈ y :: l, x.1 ≠ t.1 := fun x hx e => by
          rcases List.mem_cons.1 hx with rfl | hx
          · rw [e, lessE_irr] at h2; cases h2
          · have h3 := lessE_trans h2 (hy.1 x hx)
            rw [e, lessE_irr] at h3; cases h3
        rw [co_zero n1, if_pos rfl]
        rfl
      · rename_i h1 h2
        have e1 : y.1 = t.1 := lessE_tri (by rw [ht, h.len y (List.mem_cons_self ..)]) (by simpa using h1) (by simpa using h2)
        have h3 := h.co_mem (List.mem_cons_self ..)
        rw [← e1, h3, if_neg (by have := h.pos y (List.mem_cons_self ..); omega)]
        rfl
/-- Terms put in one after the other. -/
def insAll (l : Po) (ts : Po) : Po := ts.foldl ins l
theorem insAll_nf {ts : Po} (h1 : ∀ t ∈ ts, t.1.length = 8) (h2 : Pos ts) : ∀ {l : Po}, Nf l → Nf (insAll l ts) := by
  induction ts with
  | nil => exact fun h => h
  | cons t ts ih => exact fun h => ih (fun x hx => h1 x (List.mem_cons_of_mem _ hx)) (fun x hx => h2 x (List.mem_cons_of_mem _ hx)) (ins_nf (h1 t (List.mem_cons_self ..)) (h2 t (List.mem_cons_self ..)) h)
theorem insAll_co {ts : Po} (h1 : ∀ t ∈ ts, t.1.length = 8) (h2 : Pos ts) (e : Ex) : ∀ {l : Po}, Nf l → co (insAll l ts) e = co l e + co ts e := by
  induction ts with
  | nil => exact fun h => by simp [insAll, co]
  | cons t ts ih =>
    intro l h
    have h3 := ih (fun x hx => h1 x (List.mem_cons_of_mem _ hx)) (fun x hx => h2 x (List.mem_cons_of_mem _ hx)) (ins_nf (h1 t (List.mem_cons_self ..)) (h2 t (List.mem_cons_self ..)) h)
    show co (insAll (ins l t) ts) e = _
    rw [h3, ins_co (h1 t (List.mem_cons_self ..)) e h]
    simp only [co]
    omega
/-- What a sum of terms may be. -/
def Fits (l : Po) : Prop := (∀ e, co l e ≤ 1000000000000000) ∧ l.length ≤ 200
set_option linter.unusedSimpArgs false

def sumOver (g : Ex × Int → Int) : Po → Int
  | [] => 0
  | t :: l => g t + sumOver g l
theorem co_sum (l : Po) (e : Ex) : co l e = sumOver (fun t => if t.1 = e then t.2 else 0) l := by
  induction l with
  | nil => rfl
  | cons t l ih => simp only [co, sumOver, ih]
theorem sumOver_append (g : Ex × Int → Int) (a b : Po) : sumOver g (a ++ b) = sumOver g a + sumOver g b := by
  induction a with
  | nil => simp [sumOver]
  | cons t a ih => simp only [List.cons_append, sumOver, ih]; omega
/-- What is done of a list. -/
def gone (l : Po) (left : Ex → Bool) : Po := l.filter fun t => !left t.1
theorem gone_none {l : Po} {left : Ex → Bool} (h : ∀ t ∈ l, left t.1 = true) : gone l left = [] := List.filter_eq_nil_iff.2 fun t ht => by simp [h t ht]
theorem gone_all {l : Po} {left : Ex → Bool} (h : ∀ t ∈ l, left t.1 = false) : gone l left = l := List.filter_eq_self.2 fun t ht => by simp [h t ht]
theorem gone_same {l : Po} {left left' : Ex → Bool} (h : ∀ t ∈ l, left t.1 = left' t.1) : gone l left = gone l left' := List.filter_congr fun t ht => by rw [h t ht]
theorem gone_step {l : Po} (hl : Nf l) {left left' : Ex → Bool} {x : Ex × Int} (hx : x ∈ l) (h1 : left x.1 = true) (h2 : ∀ e, left' e = (left e && !decide (e = x.1))) (g : Ex × Int → Int) : sumOver g (gone l left') = sumOver g (gone l left) + g x := by
  induction l with
  | nil => cases hx
  | cons t l ih =>
    have ht := hl.head_ne
    rcases List.mem_cons.1 hx with rfl | hx
    · have e1 : gone (x :: l) left = gone l left := by simp [gone, h1]
      have e2 : gone (x :: l) left' = x :: gone l left' := by simp [gone, h2]
      have e3 : gone l left' = gone l left := gone_same fun t hm => by simp [h2, ht t hm]
      rw [e1, e2, e3]
      simp only [sumOver]
      omega
    · have n1 : t.1 ≠ x.1 := fun e => ht x hx e.symm
      have h3 := ih hl.tail hx
      have e4 : left' t.1 = left t.1 := by simp [h2, n1]
      cases h5 : left t.1 with
      | true =>
        rw [show gone (t :: l) left' = gone l left' by simp [gone, e4, h5], show gone (t :: l) left = gone l left by simp [gone, h5]]
        exact h3
      | false =>
        rw [show gone (t :: l) left' = t :: gone l left' by simp [gone, e4, h5], show gone (t :: l) left = t :: gone l left by simp [gone, h5]]
        simp only [sumOver, h3]
        omega
theorem gone_le {l : Po} {left : Ex → Bool} {g : Ex × Int → Int} (h : ∀ t ∈ l, 0 ≤ g t) : sumOver g (gone l left) ≤ sumOver g l := by
  induction l with
  | nil => exact Int.le_refl _
  | cons t l ih =>
    have h1 := ih (fun x hx => h x (List.mem_cons_of_mem _ hx))
    have h2 := h t (List.mem_cons_self ..)
    cases h5 : left t.1 with
    | true =>
      rw [show gone (t :: l) left = gone l left by simp [gone, h5]]
      simp only [sumOver]
      omega
    | false =>
      rw [show gone (t :: l) left = t :: gone l left by simp [gone, h5]]
      simp only [sumOver]
      omega
/-- Exponents added. -/
def addE (a b : Ex) : Ex := List.zipWith (· + ·) a b
theorem addE_len {a b : Ex} (ha : a.length = 8) (hb : b.length = 8) : (addE a b).length = 8 := by simp [addE, ha, hb]
def mulT (p q : Ex × Int) : Ex × Int := (addE p.1 q.1, p.2 * q.2)
def mulL (p : Ex × Int) (b : Po) : Po := b.map (mulT p)
def prodT (a b : Po) : Po := a.flatMap fun p => mulL p b
theorem prodT_cons (p : Ex × Int) (a b : Po) : prodT (p :: a) b = mulL p b ++ prodT a b := rfl
theorem mulL_sum (g : Ex × Int → Int) (p : Ex × Int) (b : Po) : sumOver g (mulL p b) = sumOver (fun q => g (mulT p q)) b := by
  induction b with
  | nil => rfl
  | cons q b ih =>
    show g (mulT p q) + sumOver g (mulL p b) = _
    rw [ih]
    rfl
theorem prodT_sum (g : Ex × Int → Int) (a b : Po) : sumOver g (prodT a b) = sumOver (fun p => sumOver g (mulL p b)) a := by
  induction a with
  | nil => rfl
  | cons p a ih =>
    rw [prodT_cons, sumOver_append, ih]
    rfl
theorem prodT_mem {a b : Po} {t : Ex × Int} : t ∈ prodT a b ↔ ∃ p ∈ a, ∃ q ∈ b, t = mulT p q := by
  simp only [prodT, mulL, List.mem_flatMap, List.mem_map]
  exact ⟨fun ⟨p, hp, q, hq, e⟩ => ⟨p, hp, q, hq, e.symm⟩, fun ⟨p, hp, q, hq, e⟩ => ⟨p, hp, q, hq, e.symm⟩⟩
theorem prodT_ok {a b : Po} (ha : Nf a) (hb : Nf b) : (∀ t ∈ prodT a b, t.1.length = 8) ∧ Pos (prodT a b) := by
  refine ⟨fun t ht => ?_, fun t ht => ?_⟩
  · obtain ⟨p, hp, q, hq, rfl⟩ := prodT_mem.1 ht
    exact addE_len (ha.len p hp) (hb.len q hq)
  · obtain ⟨p, hp, q, hq, rfl⟩ := prodT_mem.1 ht
    exact Int.mul_pos (ha.pos p hp) (hb.pos q hq)
/-- A product of two monomials that is not too great. -/
def TermOk (t : Ex × Int) : Prop := (∀ n ∈ t.1, n ≤ 60) ∧ t.2 ≤ 1000000000000000
/-- The reference's 'into': the coefficient may not become too great. -/
def intoF (l : Po) (t : Ex × Int) : Option Po := if 1000000000000000 < co l t.1 + t.2 then none else some (ins l t)
def intoAll (l : Po) (ts : Po) : Option Po := ts.foldlM intoF l
theorem intoAll_cons (l : Po) (t : Ex × Int) (ts : Po) : intoAll l (t :: ts) = (intoF l t).bind fun l' => intoAll l' ts := rfl
def Top (l : Po) : Prop := ∀ e, co l e ≤ 1000000000000000
theorem intoAll_law {ts : Po} (h1 : ∀ t ∈ ts, t.1.length = 8) (h2 : Pos ts) : ∀ {l : Po}, Nf l → Top l → (Top (insAll l ts) ∧ intoAll l ts = some (insAll l ts)) ∨ (¬ Top (insAll l ts) ∧ intoAll l ts = none) := by
  induction ts with
  | nil => exact fun _ ht => .inl ⟨ht, rfl⟩
  | cons t ts ih =>
    intro l h ht
    have g1 := h1 t (List.mem_cons_self ..)
    have g2 := h2 t (List.mem_cons_self ..)
    have k1 : ∀ x ∈ ts, x.1.length = 8 := fun x hx => h1 x (List.mem_cons_of_mem _ hx)
    have k2 : Pos ts := fun x hx => h2 x (List.mem_cons_of_mem _ hx)
    have hn := ins_nf g1 g2 h
    rw [intoAll_cons, intoF]
    by_cases hc : 1000000000000000 < co l t.1 + t.2
    · rw [if_pos hc]
      refine .inr ⟨fun htop => ?_, rfl⟩
      have h3 := htop t.1
      rw [show insAll l (t :: ts) = insAll (ins l t) ts from rfl, insAll_co k1 k2 t.1 hn, ins_co g1 t.1 h, if_pos rfl] at h3
      have := co_nonneg k2 t.1
      omega
    · rw [if_neg hc]
      have ht' : Top (ins l t) := fun e => by
        rw [ins_co g1 e h]
        by_cases he : t.1 = e
        · subst he
          rw [if_pos rfl]
          omega
        · rw [if_neg he]
          have := ht e
          omega
      exact ih k1 k2 hn ht'
end
end Go.Proofs.Ytlidibbdacohaaa.R
