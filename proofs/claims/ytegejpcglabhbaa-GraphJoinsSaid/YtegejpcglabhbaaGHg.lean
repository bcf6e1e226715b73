/- Blocks of records: cells one behind the other. -/
import Derived.Test.YtegejpcglabhbaaGHc
namespace Go.Proofs.Ytegejpcglabhbaa.G
open Go.RowKit Go.Proofs.YtegejpcglabhbaaW.PrintWords Go.Proofs.YtegejpcglabhbaaW.PrintLast Go.Proofs.YtegejpcglabhbaaW.PrintMore
set_option linter.unusedVariables false
set_option linter.unusedSimpArgs false
theorem make_cells (P : Program) (t e : TypeId) (z : Value) (sz bytes : Nat) (ht : P.underlying t = some (.slice e)) (hinfo : (P.info? e).map (fun i => (i.zero, i.size, i.bytes)) = some (some z, sz, bytes)) (N : Nat) (hb : bytes * N ≤ 281474976710656) (hN : N ≤ 9223372036854775807) (W : World) :
    (Instr.makeSlice t (.int .i64 (N : Int)) (.int .i64 (N : Int))).run P W = .ok (.slice (some ⟨W.heap.size, 0, none⟩) N N) (W.alloc (.cells (madeCells z.cells (N * sz)) e)) := by
  obtain ⟨i, hi, hzz⟩ := Option.map_eq_some_iff.1 hinfo
  simp only [Prod.mk.injEq] at hzz
  obtain ⟨hz, hs, hb2⟩ := hzz
  have hb' : (i.bytes : Int) * (N : Int) ≤ 281474976710656 := by
    have h : ((i.bytes * N : Nat) : Int) ≤ 281474976710656 := by rw [hb2]; omega
    rwa [Int.natCast_mul] at h
  have hr := run_make (P := P) W t e i z ht hi hz .i64 .i64 N N (by omega) (Int.le_refl _) hb' (by omega)
  simp only [Int.toNat_natCast, hs] at hr
  exact hr
section
variable {α : Type} {f : α → List Value} {sz : Nat}
theorem flat_length (hf : ∀ a, (f a).length = sz) : ∀ l : List α, (l.flatMap f).length = l.length * sz := by
  intro l
  induction l with
  | nil => simp
  | cons a l ih => rw [List.flatMap_cons, List.length_append, ih, hf, List.length_cons, Nat.succ_mul]; omega
theorem flat_get (hf : ∀ a, (f a).length = sz) : ∀ (l : List α) (i j : Nat) (a : α), l[i]? = some a → j < sz → (l.flatMap f)[i * sz + j]? = (f a)[j]? := by
  intro l
  induction l with
  | nil => intro i j a h; simp at h
  | cons b l ih =>
    intro i j a h hj
    rw [List.flatMap_cons]
    cases i with
    | zero =>
      simp only [List.getElem?_cons_zero, Option.some.injEq] at h
      subst h
      rw [Nat.zero_mul, Nat.zero_add, List.getElem?_append_left (by rw [hf]; exact hj)]
    | succ i =>
      rw [List.getElem?_cons_succ] at h
      rw [Nat.succ_mul, List.getElem?_append_right (by rw [hf]; omega), hf, show i * sz + sz + j - sz = i * sz + j by omega]
      exact ih i j a h hj
theorem flat_take (hf : ∀ a, (f a).length = sz) : ∀ (l : List α) (i : Nat) (a : α), l[i]? = some a → ((l.flatMap f).drop (i * sz)).take sz = f a := by
  intro l i a h
  apply List.ext_getElem?
  intro j
  by_cases hj : j < sz
  · rw [List.getElem?_take_of_lt hj, List.getElem?_drop, flat_get hf l i j a h hj]
  · rw [List.getElem?_eq_none (by rw [List.length_take]; omega), List.getElem?_eq_none (by rw [hf]; omega)]
theorem cells_R (d : Kd α) (hsz : d.sz = sz) (hf : ∀ a, (f a).length = sz) (hM : ∀ w base ok x, d.M w base ok x (f x)) {w : World} {b base e : Nat} {ok : Nat → Prop} {l : List α} (h : w.heap[b]? = some (.cells (l.flatMap f).toArray e (0, 0))) (hb : base ≤ b) (hok : ok b) (hl : l.length ≤ 9223372036854775807) :
    Kd.R d e w base ok (.slice (some ⟨b, 0, none⟩) l.length l.length) l := by
  refine ⟨fun k hk => by simp only [Value.ownBlock, Option.some.injEq] at hk; exact hk ▸ hok, l.flatMap f, ⟨by rw [flat_length hf, hsz], .inr ⟨b, l.length, _, rfl, hb, h, Nat.le_refl _, by simpa [maxLen] using hl, by simp [flat_length hf, hsz], ?_⟩⟩, ?_⟩
  · rw [hsz, ← flat_length hf l]
    exact List.take_length
  · exact ⟨by rw [flat_length hf, hsz], fun j p hj => by rw [hsz, flat_take hf l j p hj]; exact hM _ _ _ _⟩
end
def cell2 (a : S94) : List Value := [.bool a.f0, .int .i64 a.f1]
def encW (l : List S94) : Array Value := (l.flatMap cell2).toArray
theorem cell2_len (a : S94) : (cell2 a).length = 2 := rfl
theorem encW_get {l : List S94} {i : Nat} (h : i < l.length) : (encW l)[i * 2]? = some (.bool (l.getD i z94).f0) ∧ (encW l)[i * 2 + 1]? = some (.int .i64 (l.getD i z94).f1) := by
  have e : l[i]? = some (l.getD i z94) := by rw [List.getD_eq_getElem?_getD, List.getElem?_eq_getElem h]; rfl
  have h0 := flat_get cell2_len l i 0 _ e (by omega)
  have h1 := flat_get cell2_len l i 1 _ e (by omega)
  simp only [encW, List.getElem?_toArray]
  exact ⟨h0, h1⟩
theorem encW_set (l : List S94) (i : Nat) (a : S94) (h : i < l.length) : ((encW l).setIfInBounds (i * 2) (.bool a.f0)).setIfInBounds (i * 2 + 1) (.int .i64 a.f1) = encW (l.set i a) := by
  simp only [encW, List.setIfInBounds_toArray]
  congr 1
  revert i
  induction l with
  | nil => intro i h; simp at h
  | cons b l ih =>
    intro i h
    cases i with
    | zero => simp [cell2]
    | succ i =>
      rw [List.set_cons_succ, List.flatMap_cons, List.flatMap_cons, ← ih i (by simpa using h)]
      rw [List.set_append_right _ _ (by rw [cell2_len]; omega), cell2_len, show (i + 1) * 2 - 2 = i * 2 by omega]
      rw [List.set_append_right _ _ (by rw [cell2_len]; omega), cell2_len, show (i + 1) * 2 + 1 - 2 = i * 2 + 1 by omega]
theorem set_same (A : Array Value) (i : Nat) (v : Value) (h : A[i]? = some v) : A.setIfInBounds i v = A := by
  apply Array.ext_getElem?
  intro j
  by_cases e : i = j
  · subst e
    rw [Array.getElem?_setIfInBounds_self_of_lt (Array.getElem?_eq_some_iff.1 h).1, h]
  · rw [Array.getElem?_setIfInBounds_ne e]
theorem encW_set1 (l : List S94) (i : Nat) (b : Bool) (h : i < l.length) : (encW l).setIfInBounds (i * 2) (.bool b) = encW (l.set i ⟨b, (l.getD i z94).f1⟩) := by
  rw [← encW_set l i _ h]
  refine (set_same _ _ _ ?_).symm
  rw [Array.getElem?_setIfInBounds_ne (by omega)]
  exact (encW_get h).2
theorem madeW (N : Nat) : madeCells (Value.agg #[.bool false, .int .i64 0]).cells (N * 2) = encW (List.replicate N ⟨false, 0⟩) := by
  have hc : (Value.agg #[.bool false, .int .i64 0]).cells = #[.bool false, .int .i64 0] := by rfl
  rw [hc]
  have hlen := flat_length cell2_len (List.replicate N (⟨false, 0⟩ : S94))
  rw [List.length_replicate] at hlen
  apply Array.ext
  · rw [size_madeCells]; simp only [encW, List.size_toArray]; exact hlen.symm
  · intro i h1 h2
    have h3 : i < N * 2 := by rw [size_madeCells] at h1; exact h1
    have h4 : (List.replicate N (⟨false, 0⟩ : S94))[i / 2]? = some ⟨false, 0⟩ := by rw [List.getElem?_replicate, if_pos (by omega)]
    have h5 := flat_get cell2_len _ (i / 2) (i % 2) _ h4 (by omega)
    rw [show i / 2 * 2 + i % 2 = i by omega] at h5
    have h6 : (encW (List.replicate N ⟨false, 0⟩))[i]? = (cell2 ⟨false, 0⟩)[i % 2]? := by simp only [encW, List.getElem?_toArray]; exact h5
    rw [Array.getElem?_eq_getElem h2] at h6
    rcases Nat.mod_two_eq_zero_or_one i with h7 | h7
    · rw [h7] at h6
      rw [Option.some.inj h6]
      simp [madeCells, h7]
    · rw [h7] at h6
      rw [Option.some.inj h6]
      simp [madeCells, h7]

end Go.Proofs.Ytegejpcglabhbaa.G
