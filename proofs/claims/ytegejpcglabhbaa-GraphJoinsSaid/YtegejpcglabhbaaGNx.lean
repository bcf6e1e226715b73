/- Plain law: what Extend tells: the least solution of both lists. -/
import Derived.Test.YtegejpcglabhbaaGNc
import Derived.Test.YtegejpcglabhbaaGNh
import Derived.Test.YtegejpcglabhbaaGHe
namespace Go.Proofs.Ytegejpcglabhbaa.G
open Go.RowKit Go.Proofs.YtegejpcglabhbaaW.PrintWords Go.Proofs.YtegejpcglabhbaaW.PrintLast Go.Proofs.YtegejpcglabhbaaW.PrintMore
set_option linter.unusedVariables false
set_option linter.unusedSimpArgs false

/-- Numbers that ways reach, none below those that are known. -/
structure EI (n : Nat) (E : List S105) (sol out : List Int) : Prop where
  len : out.length = n
  low : ∀ v, sol.getD v 0 ≤ out.getD v 0
  walk : ∀ v, v ≤ n → Walk E n v (out.getD v 0)
theorem arcs_to {n : Nat} {c : S44} {a : S105} (ha : a ∈ arcsOf (n : Int) 0 c) : a.f1 = (bndOf (n : Int) c.f1).1 := by
  unfold arcsOf at ha
  rcases List.mem_cons.1 ha with rfl | ha
  · rfl
  · obtain ⟨v, hv, rfl⟩ := List.mem_map.1 ha
    rfl
/-- What a constraint needs, by its arcs. -/
theorem need_le {n : Nat} {c : S44} {out : List Int} (hl : out.length = n) (Y : Int) : sideB c.f0 out - (bndOf (n : Int) c.f1).2 ≤ Y ↔ ∀ a ∈ arcsOf (n : Int) 0 c, out.getD a.f0.toNat 0 + a.f2 ≤ Y := by
  have hm : arcsOf (n : Int) 0 c = ⟨n, (bndOf n c.f1).1, c.f0.f0 - (bndOf n c.f1).2, 0⟩ :: c.f0.f1.map fun v => ⟨v.f0, (bndOf n c.f1).1, v.f1 - (bndOf n c.f1).2, 0⟩ := rfl
  rw [hm]
  have h1 : sideB c.f0 out - (bndOf (n : Int) c.f1).2 ≤ Y ↔ sideB c.f0 out ≤ Y + (bndOf (n : Int) c.f1).2 := by omega
  rw [h1, sideB_le]
  simp only [List.mem_cons, forall_eq_or_imp, List.mem_map, forall_exists_index, and_imp, forall_apply_eq_imp_iff₂, Int.toNat_natCast, getD_ge (Nat.le_of_eq hl)]
  constructor
  · rintro ⟨h1, h2⟩
    exact ⟨by omega, fun v hv => by have := h2 v hv; omega⟩
  · rintro ⟨h1, h2⟩
    exact ⟨by omega, fun v hv => by have := h2 v hv; omega⟩
theorem need_at {n : Nat} {c : S44} {out : List Int} (hl : out.length = n) : ∃ a ∈ arcsOf (n : Int) 0 c, out.getD a.f0.toNat 0 + a.f2 = sideB c.f0 out - (bndOf (n : Int) c.f1).2 := by
  have h1 := (need_le (c := c) hl (sideB c.f0 out - (bndOf (n : Int) c.f1).2)).1 (Int.le_refl _)
  have h2 := fun h => (need_le (c := c) hl (sideB c.f0 out - (bndOf (n : Int) c.f1).2 - 1)).2 h
  by_cases h : ∃ a ∈ arcsOf (n : Int) 0 c, out.getD a.f0.toNat 0 + a.f2 = sideB c.f0 out - (bndOf (n : Int) c.f1).2
  · exact h
  · exfalso
    have := h2 fun a ha => by
      have h3 := h1 a ha
      have h4 : out.getD a.f0.toNat 0 + a.f2 ≠ sideB c.f0 out - (bndOf (n : Int) c.f1).2 := fun e => h ⟨a, ha, e⟩
      omega
    omega
section
variable {n : Nat} {all : List S44} {sol : List Int}
theorem mem_arcs {c : S44} (hc : c ∈ all) {a : S105} (ha : a ∈ arcsOf (n : Int) 0 c) : ∃ b ∈ sysArcs n all, b.f0 = a.f0 ∧ b.f1 = a.f1 ∧ b.f2 = a.f2 := by
  obtain ⟨i, hi, rfl⟩ := List.mem_iff_getElem.1 hc
  unfold arcsOf at ha
  rcases List.mem_cons.1 ha with rfl | ha
  · exact ⟨⟨n, (bndOf n all[i].f1).1, all[i].f0.f0 - (bndOf n all[i].f1).2, (i : Int)⟩, mem_sysArcs.2 (.inr ⟨i, hi, List.mem_cons_self⟩), rfl, rfl, rfl⟩
  · obtain ⟨v, hv, rfl⟩ := List.mem_map.1 ha
    exact ⟨⟨v.f0, (bndOf n all[i].f1).1, v.f1 - (bndOf n all[i].f1).2, (i : Int)⟩, mem_sysArcs.2 (.inr ⟨i, hi, List.mem_cons_of_mem _ (List.mem_map.2 ⟨v, hv, rfl⟩)⟩), rfl, rfl, rfl⟩
theorem walk_arc {c : S44} (hc : c ∈ all) {a : S105} (ha : a ∈ arcsOf (n : Int) 0 c) {out : List Int} (h : EI n (sysArcs n all) sol out) (hf : FitOk n c) : Walk (sysArcs n all) n a.f1.toNat (out.getD a.f0.toNat 0 + a.f2) := by
  have hb := arcs_in hf a ha
  obtain ⟨b, hb1, h0, h1, h2⟩ := mem_arcs hc ha
  rw [← h2]
  exact .snoc (h.walk a.f0.toNat (by omega)) hb1 (by rw [h0]; omega) (by rw [h1]; omega)
theorem EI.set {out : List Int} (h : EI n (sysArcs n all) sol out) {t : Nat} (ht : t < n) {x : Int} (hx : out.getD t 0 ≤ x) (hw : Walk (sysArcs n all) n t x) : EI n (sysArcs n all) sol (out.set t x) := by
  refine ⟨by rw [List.length_set]; exact h.len, fun v => ?_, fun v hv => ?_⟩
  · rw [gset _ _ _ _ _ (by rw [h.len]; exact ht)]
    have := h.low v
    split
    · rename_i e; subst e; omega
    · exact this
  · rw [gset _ _ _ _ _ (by rw [h.len]; exact ht)]
    split
    · rename_i e; subst e; exact hw
    · exact h.walk v hv
theorem extL_spec (hfit : ∀ c ∈ all, FitOk n c) : ∀ (cs : List S44) (out : List Int) (rz : Bool), (∀ c ∈ cs, c ∈ all) → EI n (sysArcs n all) sol out →
    (extL n cs out rz = none ∧ ∃ d, 0 < d ∧ Walk (sysArcs n all) n n d) ∨
    ∃ o r, extL n cs out rz = some (o, r) ∧ EI n (sysArcs n all) sol o ∧ (∀ v, out.getD v 0 ≤ o.getD v 0) ∧ (r = false → rz = false ∧ o = out ∧ ∀ c ∈ cs, Suits (fun v => out.getD v 0) (arcsOf (n : Int) 0 c)) ∧
      ∀ c ∈ cs, ∀ a ∈ arcsOf (n : Int) 0 c, out.getD a.f0.toNat 0 + a.f2 ≤ o.getD a.f1.toNat 0 := by
  intro cs
  induction cs with
  | nil => intro out rz _ h; exact .inr ⟨out, rz, rfl, h, fun v => Int.le_refl _, fun e => ⟨e, rfl, fun c hc => by cases hc⟩, fun c hc => by cases hc⟩
  | cons c cs ih =>
    intro out rz hcs h
    have hc := hcs c List.mem_cons_self
    have hcs2 := fun x hx => hcs x (List.mem_cons_of_mem c hx)
    have hf := hfit c hc
    have hbd := bnd_ok hf (Int.natCast_nonneg n)
    obtain ⟨a0, ha0, he0⟩ := need_at (c := c) h.len
    have hw := walk_arc hc ha0 h hf
    rw [arcs_to ha0, he0] at hw
    obtain ⟨t, ht⟩ := Int.eq_ofNat_of_zero_le hbd.1
    have hgo : ∀ out2 rz2, EI n (sysArcs n all) sol out2 → (∀ v, out.getD v 0 ≤ out2.getD v 0) → sideB c.f0 out - (bndOf (n : Int) c.f1).2 ≤ out2.getD t 0 → (rz2 = false → rz = false ∧ out2 = out) →
        (extL n cs out2 rz2 = none ∧ ∃ d, 0 < d ∧ Walk (sysArcs n all) n n d) ∨
        ∃ o r, extL n cs out2 rz2 = some (o, r) ∧ EI n (sysArcs n all) sol o ∧ (∀ v, out.getD v 0 ≤ o.getD v 0) ∧ (r = false → rz = false ∧ o = out ∧ ∀ x ∈ c :: cs, Suits (fun v => out.getD v 0) (arcsOf (n : Int) 0 x)) ∧
          ∀ x ∈ c :: cs, ∀ a ∈ arcsOf (n : Int) 0 x, out.getD a.f0.toNat 0 + a.f2 ≤ o.getD a.f1.toNat 0 := by
      intro out2 rz2 h2 hle hneed hrz
      rcases ih out2 rz2 hcs2 h2 with ⟨h3, h4⟩ | ⟨o, r, h3, h4, h5, h6, h7⟩
      · exact .inl ⟨h3, h4⟩
      · refine .inr ⟨o, r, h3, h4, fun v => Int.le_trans (hle v) (h5 v), fun hr => ?_, fun x hx a ha => ?_⟩
        · obtain ⟨q1, q2, q3⟩ := h6 hr
          obtain ⟨q4, q5⟩ := hrz q1
          subst q5
          refine ⟨q4, q2, fun x hx => ?_⟩
          rcases List.mem_cons.1 hx with rfl | hx
          · intro a ha
            have := (need_le (c := x) h.len _).1 hneed a ha
            rw [arcs_to ha, ht, Int.toNat_natCast]
            exact this
          · exact q3 x hx
        · rcases List.mem_cons.1 hx with rfl | hx
          · have h8 := (need_le (c := x) h.len _).1 hneed a ha
            rw [arcs_to ha, ht, Int.toNat_natCast]
            exact Int.le_trans h8 (h5 t)
          · have h8 := h7 x hx a ha
            have h9 := hle a.f0.toNat
            omega
    simp only [extL]
    by_cases e1 : (bndOf (n : Int) c.f1).1 = (n : Int)
    · rw [if_pos e1]
      by_cases e2 : 0 < sideB c.f0 out - (bndOf (n : Int) c.f1).2
      · rw [if_pos e2]
        rw [e1, Int.toNat_natCast] at hw
        exact .inl ⟨rfl, _, e2, hw⟩
      · rw [if_neg e2]
        refine hgo out rz h (fun v => Int.le_refl _) ?_ (fun e => ⟨e, rfl⟩)
        rw [getD_ge (by rw [h.len]; omega)]
        omega
    · rw [if_neg e1, ht, Int.toNat_natCast]
      rw [ht, Int.toNat_natCast] at hw
      by_cases e2 : sideB c.f0 out - (bndOf (n : Int) c.f1).2 ≤ out.getD t 0
      · rw [if_pos e2]
        exact hgo out rz h (fun v => Int.le_refl _) e2 (fun e => ⟨e, rfl⟩)
      · rw [if_neg e2]
        have htn : t < n := by omega
        refine hgo _ true (h.set htn (by omega) hw) (fun v => ?_) ?_ (fun e => by cases e)
        · rw [gset _ _ _ _ _ (by rw [h.len]; exact htn)]
          split
          · rename_i e; subst e; omega
          · exact Int.le_refl _
        · rw [gset _ _ _ _ _ (by rw [h.len]; exact htn), if_pos rfl]
          exact Int.le_refl _
theorem extL_fix (hfit : ∀ c ∈ all, FitOk n c) : ∀ (cs : List S44) (out : List Int) (rz : Bool), (∀ c ∈ cs, c ∈ all) → out.length = n → (∀ c ∈ cs, Suits (fun v => out.getD v 0) (arcsOf (n : Int) 0 c)) → extL n cs out rz = some (out, rz) := by
  intro cs
  induction cs with
  | nil => intro out rz _ _ _; rfl
  | cons c cs ih =>
    intro out rz hcs hl hs
    have hf := hfit c (hcs c List.mem_cons_self)
    have hbd := bnd_ok hf (Int.natCast_nonneg n)
    obtain ⟨t, ht⟩ := Int.eq_ofNat_of_zero_le hbd.1
    have hn : sideB c.f0 out - (bndOf (n : Int) c.f1).2 ≤ out.getD t 0 := (need_le hl _).2 fun a ha => by
      have := hs c List.mem_cons_self a ha
      rw [arcs_to ha, ht, Int.toNat_natCast] at this
      exact this
    have hrest := ih out rz (fun x hx => hcs x (List.mem_cons_of_mem _ hx)) hl (fun x hx => hs x (List.mem_cons_of_mem _ hx))
    simp only [extL]
    by_cases e1 : (bndOf (n : Int) c.f1).1 = (n : Int)
    · rw [if_pos e1, if_neg]
      · exact hrest
      · rw [getD_ge (by omega)] at hn
        omega
    · rw [if_neg e1, ht, Int.toNat_natCast, if_pos hn]
      exact hrest
theorem EI.sol_of {out : List Int} (h : EI n (sysArcs n all) sol out) (h0 : ∀ v, 0 ≤ sol.getD v 0) (hs : ∀ c ∈ all, Suits (fun v => out.getD v 0) (arcsOf (n : Int) 0 c)) : Sol n (sysArcs n all) (fun v => out.getD v 0) :=
  sol_sys.2 ⟨getD_ge (by rw [h.len]; exact Nat.le_refl _), fun v _ => Int.le_trans (h0 v) (h.low v), hs⟩
theorem extG_sol (hfit : ∀ c ∈ all, FitOk n c) (h0 : ∀ v, 0 ≤ sol.getD v 0) {d : List Int} (hd : Least n (sysArcs n all) d) : ∀ (K rd : Nat) (out : List Int), EI n (sysArcs n all) sol out → rd ≤ n → n + 2 ≤ rd + K →
    (∀ m, m ≤ rd → ∀ v, v ≤ n → Tight (sysArcs n all) (fun v => d.getD v 0) n m v → d.getD v 0 ≤ out.getD v 0) → extG n all K rd out = some (d, 0) := by
  intro K
  induction K with
  | zero => intro rd out _ h1 h2; omega
  | succ K ih =>
    intro rd out h hrd hK ht
    have hup : ∀ (o : List Int), EI n (sysArcs n all) sol o → ∀ v, v ≤ n → o.getD v 0 ≤ d.getD v 0 := fun o ho v hv => by
      have := hd.sol.walk (ho.walk v hv)
      have hz := hd.sol.zero
      have h3 : d.getD n 0 + o.getD v 0 ≤ d.getD v 0 := this
      have h4 : d.getD n 0 = 0 := hz
      omega
    have heq : ∀ o : List Int, EI n (sysArcs n all) sol o → (∀ v, v ≤ n → d.getD v 0 ≤ o.getD v 0) → o = d := fun o ho hge => by
      apply List.ext_getElem (by rw [ho.len, hd.len])
      intro i hi hi2
      have hin : i ≤ n := by rw [← ho.len]; omega
      have a := hup o ho i hin
      have b := hge i hin
      rw [List.getD_eq_getElem?_getD, List.getD_eq_getElem?_getD, List.getElem?_eq_getElem hi, List.getElem?_eq_getElem hi2] at a b
      have c : o[i] ≤ d[i] := a
      have e : d[i] ≤ o[i] := b
      omega
    have hsuit := (sol_sys.1 hd.sol).2.2
    simp only [extG]
    rcases extL_spec hfit all out false (fun c hc => hc) h with ⟨_, x, hx, hw⟩ | ⟨o, r, h3, h4, h5, h6, h7⟩
    · exfalso
      have := hd.sol.walk hw
      have h8 : d.getD n 0 + x ≤ d.getD n 0 := this
      omega
    · rw [h3]
      dsimp only
      cases r with
      | false =>
        rw [if_pos rfl]
        obtain ⟨_, q2, q3⟩ := h6 rfl
        have hs := h.sol_of h0 q3
        rw [q2, heq out h (fun v hv => hd.le hs v hv)]
      | true =>
        rw [if_neg (by decide)]
        by_cases hrn : rd = n
        · -- all are exact already
          exfalso
          have he : out = d := heq out h fun v hv => by
            obtain ⟨m, hm, htm⟩ := hd.long.tight v hv rfl
            exact ht m (by omega) v hv htm
          have := extL_fix hfit all out false (fun c hc => hc) h.len (by rw [he]; exact hsuit)
          rw [h3] at this
          cases this
        · rw [if_neg (by omega)]
          refine ih (rd + 1) o h4 (by omega) (by omega) fun m hm v hv htm => ?_
          cases htm with
          | nil => exact Int.le_trans (ht 0 (by omega) n hv .nil) (h5 n)
          | @snoc m x t a hx ha ha0 ha1 he =>
            have hb : x ≤ n := by
              rcases mem_sysArcs.1 ha with ⟨u, hu, rfl⟩ | ⟨i, hi, hai⟩
              · have : ((n : Int)) = (x : Int) := ha0
                omega
              · have := arcs_mem (hfit _ (List.getElem_mem hi)) (Int.natCast_nonneg n) hai
                omega
            have h8 := ht m (by omega) x hb hx
            have h9 : out.getD x 0 + a.f2 ≤ o.getD v 0 := by
              rcases mem_sysArcs.1 ha with ⟨u, hu, rfl⟩ | ⟨i, hi, hai⟩
              · have e1 : ((n : Int)) = (x : Int) := ha0
                have e2 : x = n := by omega
                have := h4.low v
                have := h0 v
                rw [e2, getD_ge (by rw [h.len]; exact Nat.le_refl _)]
                show (0 : Int) + 0 ≤ _
                omega
              · have hq := suits_by (n := (n : Int)) (i := 0) (j := (i : Int)) (c := all[i]) (val := fun z => if z = v then o.getD v 0 else out.getD z 0)
                -- the same arc with the number 0
                unfold arcsOf at hai
                rcases List.mem_cons.1 hai with rfl | hai
                · have := h7 all[i] (List.getElem_mem hi) ⟨n, (bndOf n all[i].f1).1, all[i].f0.f0 - (bndOf n all[i].f1).2, 0⟩ List.mem_cons_self
                  have e0 : ((n : Int)) = (x : Int) := ha0
                  have e1 : (bndOf (n : Int) all[i].f1).1 = (v : Int) := ha1
                  simp only [Int.toNat_natCast] at this
                  rw [e1, Int.toNat_natCast] at this
                  have e2 : x = n := by omega
                  rw [e2]
                  exact this
                · obtain ⟨u, hu, rfl⟩ := List.mem_map.1 hai
                  have := h7 all[i] (List.getElem_mem hi) ⟨u.f0, (bndOf n all[i].f1).1, u.f1 - (bndOf n all[i].f1).2, 0⟩ (List.mem_cons_of_mem _ (List.mem_map.2 ⟨u, hu, rfl⟩))
                  have e0 : u.f0 = (x : Int) := ha0
                  have e1 : (bndOf (n : Int) all[i].f1).1 = (v : Int) := ha1
                  dsimp only at this
                  rw [e0, e1, Int.toNat_natCast, Int.toNat_natCast] at this
                  exact this
            have h10 : d.getD v 0 = d.getD x 0 + a.f2 := he
            omega
theorem extG_none (hfit : ∀ c ∈ all, FitOk n c) (h0 : ∀ v, 0 ≤ sol.getD v 0) (hno : ¬ ∃ val, Sol n (sysArcs n all) val) : ∀ (K rd : Nat) (out : List Int), EI n (sysArcs n all) sol out → rd ≤ n + 2 → n + 3 ≤ rd + K → extG n all K rd out = some ([], 20) := by
  intro K
  induction K with
  | zero => intro rd out _ h1 h2; omega
  | succ K ih =>
    intro rd out h hrd hK
    simp only [extG]
    rcases extL_spec hfit all out false (fun c hc => hc) h with ⟨h3, _⟩ | ⟨o, r, h3, h4, h5, h6, h7⟩
    · rw [h3]
    · rw [h3]
      dsimp only
      cases r with
      | false =>
        exfalso
        obtain ⟨_, _, q3⟩ := h6 rfl
        exact hno ⟨_, h.sol_of h0 q3⟩
      | true =>
        rw [if_neg (by decide)]
        by_cases hrn : n + 1 < rd
        · rw [if_pos hrn]
        · rw [if_neg hrn]
          exact ih (rd + 1) o h4 (by omega) (by omega)
end
theorem Walk.sub {E E2 : List S105} (h : ∀ a ∈ E, ∃ b ∈ E2, b.f0 = a.f0 ∧ b.f1 = a.f1 ∧ b.f2 = a.f2) {s v : Nat} {d : Int} (hw : Walk E s v d) : Walk E2 s v d := by
  induction hw with
  | nil => exact .nil
  | @snoc x t d a hw ha hx ht ih =>
    obtain ⟨b, hb, h0, h1, h2⟩ := h a ha
    rw [← h2]
    exact .snoc ih hb (by rw [h0, hx]) (by rw [h1, ht])
/-- The least solution of a part of a system is where Extend begins. -/
theorem EI.start {n : Nat} {l1 l3 : List S44} {sol : List Int} (h : Least n (sysArcs n l1) sol) : EI n (sysArcs n (l1 ++ l3)) sol sol := by
  refine ⟨h.len, fun v => Int.le_refl _, fun v hv => Walk.sub (fun a ha => ?_) (h.long.walk v hv rfl)⟩
  rcases mem_sysArcs.1 ha with ⟨u, hu, rfl⟩ | ⟨i, hi, hai⟩
  · exact ⟨natArc n u, mem_sysArcs.2 (.inl ⟨u, hu, rfl⟩), rfl, rfl, rfl⟩
  · exact ⟨a, mem_sysArcs.2 (.inr ⟨i, by rw [List.length_append]; omega, by rw [List.getElem_append_left hi]; exact hai⟩), rfl, rfl, rfl⟩
theorem both_ok {n : Nat} {l1 l3 : List S44} (h1 : SysOk n l1) (h3 : SysOk n l3) (hl : l1.length + l3.length ≤ 3000) : SysOk n (l1 ++ l3) :=
  ⟨h1.n1, by rw [List.length_append]; exact hl, fun c hc => by
    rcases List.mem_append.1 hc with hc | hc
    · exact h1.fit c hc
    · exact h3.fit c hc⟩
/-- What Extend tells of the least solution. -/
theorem extS_ev {n : Nat} {l1 l3 : List S44} (h1 : SysOk n l1) (h3 : SysOk n l3) (hl : l1.length + l3.length ≤ 3000) {sol : List Int} (hr : Least n (sysArcs n l1) sol) (he : Ev (fun k => solvedN k n l1) (sol, 0)) :
    (∃ d, Least n (sysArcs n (l1 ++ l3)) d ∧ Ev (fun k => extS k n l1 sol l3) (d, 0)) ∨ ((¬ ∃ val, Sol n (sysArcs n (l1 ++ l3)) val) ∧ Ev (fun k => extS k n l1 sol l3) ([], 20)) := by
  have hs := both_ok h1 h3 hl
  have hin : sol.length = n ∧ ∀ v ∈ sol, 0 ≤ v ∧ v ≤ 2000000 := ⟨hr.len, fun v hv => by
    obtain ⟨i, hi, rfl⟩ := List.mem_iff_getElem.1 hv
    have a := hr.low i
    have b := hr.high i
    rw [List.getD_eq_getElem?_getD, List.getElem?_eq_getElem hi] at a b
    have c : 0 ≤ sol[i] := a
    have e : sol[i] ≤ 1200000 := b
    omega⟩
  have key : ∀ r, extG n (l1 ++ l3) (n + 5) 0 sol = some r → Ev (fun k => extS k n l1 sol l3) r := fun r h => Ev.bind he (Ev.pos rfl (Ev.pos rfl (Ev.pos hin ⟨0, fun k _ => h⟩)))
  rcases prog_cases hs with ⟨d, hd, _⟩ | ⟨hno, _⟩
  · exact .inl ⟨d, hd, key _ (extG_sol hs.fit hr.low hd (n + 5) 0 sol (EI.start hr) (Nat.zero_le _) (by omega) fun m hm v hv ht => by
      obtain rfl : m = 0 := by omega
      cases ht with
      | nil => rw [getD_ge (by rw [hd.len]; exact Nat.le_refl _), getD_ge (by rw [hr.len]; exact Nat.le_refl _)]; exact Int.le_refl _)⟩
  · exact .inr ⟨hno, key _ (extG_none hs.fit hr.low hno (n + 5) 0 sol (EI.start hr) (by omega) (by omega))⟩
end Go.Proofs.Ytegejpcglabhbaa.G
