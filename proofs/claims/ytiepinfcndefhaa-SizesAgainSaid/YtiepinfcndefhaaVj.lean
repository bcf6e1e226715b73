/- Plain mathematics: the closure, without ways and doubles. No condition. -/
import Derived.Test.YtiepinfcndefhaaMc
namespace Go.Proofs.Ytiepinfcndefhaa.S
set_option linter.unusedVariables false
set_option linter.unusedSimpArgs false

def g0 : Gr := ⟨.empty, .empty, []⟩
def addG (all : List Gr) (g : Gr) : Option (List Gr) := if g ∈ all then some all else if 2000 < all.length + 1 then none else some (all ++ [g])
def extG (m : Gr) : List Gr → List Gr → Option (List Gr)
  | [], all => some all
  | h :: t, all => if m.dst = h.src then (addG all (thenG m h)).bind (extG m t) else extG m t all
def runG (single : List Gr) : Nat → Nat → List Gr → Option (List Gr)
  | 0, p, all => some all
  | d + 1, p, all => if p < all.length then (extG (all.getD p g0) single all).bind (runG single d (p + 1)) else some all
/-- What is new in a list, in its order. -/
def dd : List Gr → List Gr → List Gr
  | _, [] => []
  | acc, h :: t => if h ∈ acc then dd acc t else h :: dd (acc ++ [h]) t
abbrev fsts (all : List Mk) : List Gr := all.map Prod.fst
theorem fsts_any (all : List Mk) (g : Gr) : all.any (fun m => decide (m.1 = g)) = true ↔ g ∈ fsts all := by
  rw [List.any_eq_true, List.mem_map]
  exact ⟨fun ⟨m, h1, h2⟩ => ⟨m, h1, of_decide_eq_true h2⟩, fun ⟨m, h1, h2⟩ => ⟨m, h1, decide_eq_true h2⟩⟩
theorem addM_map (all : List Mk) (g : Gr) (w : List Int) : (addM all g w).map fsts = addG (fsts all) g := by
  unfold addM addG
  by_cases h : g ∈ fsts all
  · rw [if_pos ((fsts_any all g).2 h), if_pos h]
    rfl
  · rw [if_neg (fun e => h ((fsts_any all g).1 e)), if_neg h, List.length_map]
    split
    · rfl
    · simp [fsts]
theorem map_bind {α β : Type} {o : Option α} {f : α → Option α} {k : α → β} {o2 : Option β} {f2 : β → Option β} (h : o.map k = o2) (hf : ∀ a, o = some a → (f a).map k = f2 (k a)) : (o.bind f).map k = o2.bind f2 := by
  cases o with
  | none => rw [← h]; rfl
  | some a => rw [← h]; exact hf a rfl
theorem extL_map {first : List Gr} (m : Mk) : ∀ (d i : Nat) (all : List Mk), d + i = first.length → (extL first m d i all).map fsts = extG m.1 (first.drop i) (fsts all)
  | 0, i, all, h => by
    rw [List.drop_eq_nil_of_le (by omega)]
    rfl
  | d + 1, i, all, h => by
    have hi : i < first.length := by omega
    rw [List.drop_eq_getElem_cons hi]
    simp only [extL, extG]
    rw [show first.getD i ⟨.empty, .empty, []⟩ = first[i] by rw [List.getD_eq_getElem?_getD, List.getElem?_eq_getElem hi]; rfl]
    split
    · exact map_bind (addM_map _ _ _) (fun a _ => extL_map m d (i + 1) a (by omega))
    · exact extL_map m d (i + 1) all (by omega)
theorem addG_mem {all b : List Gr} {g : Gr} (h : addG all g = some b) : g ∈ b ∧ ∀ x ∈ all, x ∈ b := by
  unfold addG at h
  split at h
  · rename_i hg
    cases h
    exact ⟨hg, fun _ hx => hx⟩
  · split at h
    · cases h
    · cases h
      exact ⟨by simp, fun x hx => List.mem_append_left _ hx⟩
theorem extG_dd (m : Gr) : ∀ (L acc all : List Gr), (∀ h ∈ acc, m.dst = h.src → thenG m h ∈ all) → extG m L all = extG m (dd acc L) all
  | [], _, _, _ => rfl
  | h :: t, acc, all, ha => by
    simp only [dd]
    by_cases hm : h ∈ acc
    · rw [if_pos hm]
      simp only [extG]
      by_cases hd : m.dst = h.src
      · rw [if_pos hd, addG, if_pos (ha h hm hd)]
        exact extG_dd m t acc all ha
      · rw [if_neg hd]
        exact extG_dd m t acc all ha
    · rw [if_neg hm]
      simp only [extG]
      by_cases hd : m.dst = h.src
      · rw [if_pos hd, if_pos hd]
        cases hb : addG all (thenG m h) with
        | none => rfl
        | some b =>
          obtain ⟨q1, q2⟩ := addG_mem hb
          refine extG_dd m t (acc ++ [h]) b fun x hx hs => ?_
          rcases List.mem_append.1 hx with hx | hx
          · exact q2 _ (ha x hx hs)
          · rw [List.mem_singleton.1 hx]
            exact q1
      · rw [if_neg hd, if_neg hd]
        refine extG_dd m t (acc ++ [h]) all fun x hx hs => ?_
        rcases List.mem_append.1 hx with hx | hx
        · exact ha x hx hs
        · rw [List.mem_singleton.1 hx] at hs
          exact (hd hs).elim
theorem addL_map {first : List Gr} : ∀ (d i : Nat) (all : List Mk), d + i = first.length → all.length + d ≤ 2000 → (addL first d i all).map fsts = some (fsts all ++ dd (fsts all) (first.drop i))
  | 0, i, all, h, _ => by
    rw [List.drop_eq_nil_of_le (by omega)]
    simp [addL, dd]
  | d + 1, i, all, h, hl => by
    have hi : i < first.length := by omega
    rw [List.drop_eq_getElem_cons hi]
    simp only [addL, dd]
    rw [show first.getD i ⟨.empty, .empty, []⟩ = first[i] by rw [List.getD_eq_getElem?_getD, List.getElem?_eq_getElem hi]; rfl]
    unfold addM
    by_cases hm : first[i] ∈ fsts all
    · rw [if_pos ((fsts_any all _).2 hm), if_pos hm]
      exact addL_map d (i + 1) all (by omega) (by omega)
    · rw [if_neg (fun e => hm ((fsts_any all _).1 e)), if_neg hm, if_neg (by omega)]
      have h2 := addL_map (first := first) d (i + 1) (all ++ [(first[i], [(i : Int)])]) (by omega) (by simp; omega)
      have h3 : fsts (all ++ [(first[i], [(i : Int)])]) = fsts all ++ [first[i]] := by simp [fsts]
      rw [h3] at h2
      rw [show fsts all ++ first[i] :: dd (fsts all ++ [first[i]]) (first.drop (i + 1)) = (fsts all ++ [first[i]]) ++ dd (fsts all ++ [first[i]]) (first.drop (i + 1)) by simp]
      exact h2
theorem runQ_map {first : List Gr} : ∀ (d p : Nat) (all : List Mk), (runQ first d p all).map fsts = runG (dd [] first) d p (fsts all)
  | 0, p, all => rfl
  | d + 1, p, all => by
    simp only [runQ, runG]
    rw [List.length_map]
    by_cases hlt : p < all.length
    · rw [if_pos hlt, if_pos hlt]
      have e : all.getD p (⟨.empty, .empty, []⟩, []) = all[p] := by rw [List.getD_eq_getElem?_getD, List.getElem?_eq_getElem hlt]; rfl
      have e2 : (fsts all).getD p g0 = all[p].1 := by rw [List.getD_eq_getElem?_getD, List.getElem?_map, List.getElem?_eq_getElem hlt]; rfl
      rw [e, e2, ← extG_dd all[p].1 first [] (fsts all) (fun h hh => by cases hh)]
      exact map_bind (by rw [extL_map all[p] first.length 0 all (by omega), List.drop_zero]) (fun a _ => runQ_map d (p + 1) a)
    · rw [if_neg hlt, if_neg hlt]
      rfl
/-- The closure, as the reference reckons it: each new call once. -/
theorem closedQ_map {first : List Gr} (hf : first.length ≤ 60) : (closedQ first).map fsts = runG (dd [] first) 2001 0 (dd [] first) := by
  unfold closedQ
  have h1 := addL_map (first := first) first.length 0 [] (by omega) (by simp; omega)
  rw [List.drop_zero] at h1
  cases hb : addL first first.length 0 [] with
  | none => rw [hb] at h1; cases h1
  | some b =>
    rw [hb] at h1
    have h2 : fsts b = dd [] first := by simpa [fsts] using h1
    rw [← h2]
    have h3 := runQ_map (first := first) 2001 0 b
    rw [← h2] at h3
    exact h3
end Go.Proofs.Ytiepinfcndefhaa.S
