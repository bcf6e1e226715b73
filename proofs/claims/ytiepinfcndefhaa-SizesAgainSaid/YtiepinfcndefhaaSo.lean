/- A made value built of a graph and a way; an element of a list of graphs, read; what all graphs of a closure keep. No condition. -/
import Derived.Test.YtiepinfcndefhaaSl
import Derived.Laws.Tables
namespace Go.Proofs.Ytiepinfcndefhaa.S
open Go.RowKit Go.Conc Go.Proofs.YtiepinfcndefhaaW.PrintWords Go.Proofs.YtiepinfcndefhaaW.PrintLast Go.Proofs.YtiepinfcndefhaaW.PrintMore
set_option linter.unusedVariables false
set_option linter.unusedSimpArgs false

theorem lay_push (u : Value) : ∀ (l : List Value) (i : Nat) (z : Array Value), i + l.length ≤ z.size → (l.zipIdx i).foldl (fun (cs : Array Value) (x : Value × Nat) => cs.setIfInBounds x.2 x.1) (z.push u) = ((l.zipIdx i).foldl (fun (cs : Array Value) (x : Value × Nat) => cs.setIfInBounds x.2 x.1) z).push u
  | [], i, z, h => rfl
  | v :: l, i, z, h => by
    simp only [List.length_cons] at h
    simp only [List.zipIdx_cons, List.foldl_cons]
    have e : (z.push u).setIfInBounds i v = (z.setIfInBounds i v).push u := by
      apply Array.ext'
      simp only [Array.toList_setIfInBounds, Array.toList_push]
      rw [List.set_append_left _ _ (by simp; omega)]
    rw [e]
    exact lay_push u l (i + 1) _ (by simp; omega)
theorem built83 (parts : List (Nat × Value)) : Try.prog.built 83 parts = Instr.fill (#[(0, 38), (38, 1)][·]?) ((cG ⟨.empty, .empty, List.replicate 36 0⟩).push (.slice none 0 0)) parts := by kernel_rfl
theorem build_made (w : World) (cg : Array Value) (h : cg.size = 38) (v : Value) (hv : v.oneCell' = true) : (Instr.build 83 #[(0, .agg cg), (1, v)]).run Try.prog w = .ok (.agg (cg.push v)) w := by
  refine run_build w 83 _ _ ?_
  rw [built83]
  have hz : (cG ⟨.empty, .empty, List.replicate 36 0⟩).size = 38 := by simp [cG]
  generalize cG ⟨.empty, .empty, List.replicate 36 0⟩ = z at hz ⊢
  have h1 : (Value.agg cg).cells = cg := rfl
  have h2 : v.cells = #[v] := by
    cases v <;> simp [Value.oneCell'] at hv <;> rfl
  have e : Array.foldl (fun (cs : Array Value) (x : Value × Nat) => cs.setIfInBounds x.2 x.1) (z.push (.slice none 0 0)) cg.zipIdx 0 cg.zipIdx.size = cg.push (.slice none 0 0) := by
    rw [← Array.foldl_toList, Array.toList_zipIdx, lay_push _ _ _ _ (by simp; omega), lay_list _ 0 z (by simp; omega)]
    simp
  simp only [Instr.fill, h1]
  simp [h, hz, h2]
  have e2 : cg.zipIdx.size = 38 := by simp [h]
  rw [e2] at e
  rw [e]
  refine ⟨by simp [h], ?_⟩
  apply Array.ext'
  simp only [Array.toList_setIfInBounds, Array.toList_push]
  rw [List.set_append_right _ _ (by simp; omega)]
  simp [h]
/-- A graph of a list, read. -/
theorem gr_get {w : World} {A : Option Addr} {l : List Gr} (h : kGr.C w A l.length l) (i : Nat) (hi : i < l.length) : ∃ ad, A = some ad ∧ GOk l[i] ∧ ∀ j u, (cG l[i])[j]? = some u → w.cell? (ad.add (i * 38 + j)) = some u := by
  obtain ⟨ad, c, e, _, hk, hc⟩ := Kd.C_get h (⟨.empty, .empty, []⟩ : Gr) (i : Int) (by omega) (by omega)
  rw [Int.toNat_natCast] at hk hc
  rw [show l.getD i (⟨.empty, .empty, []⟩ : Gr) = l[i] by rw [List.getD_eq_getElem?_getD, List.getElem?_eq_getElem hi]; rfl] at hk
  obtain ⟨rfl, hg⟩ := hk
  exact ⟨ad, e, hg, fun j u hu => hc j u (by simpa using hu)⟩
theorem addM_len {all a : List Mk} {g : Gr} {w : List Int} (hl : all.length ≤ 2000) (h : addM all g w = some a) : a.length ≤ 2000 ∧ all.length ≤ a.length := by
  unfold addM at h
  split at h
  · cases h; exact ⟨hl, Nat.le_refl _⟩
  · split at h
    · cases h
    · cases h; simp; omega
/-- The rows of graphs are left alone by add. -/
theorem graphs_same {W W2 : World} {ab : Nat} {A : Option Addr} {l : List Gr} {base : Nat} {c : Nat} (h : kGr.R 81 W base (fun _ => True) (.slice A l.length c) l) (hs : Same W W2 ab) : kGr.R 81 W2 base (fun _ => True) (.slice A l.length c) l := by
  have h0 := Kd.R_bound h
  refine Kd.R_mono (Kd.R_move h0 fun k hk => ?_) (fun _ _ => trivial)
  obtain ⟨_, _, _, q, hq, cells, hc⟩ := hk
  have e : q = 81 := by simpa [kGr] using hq
  subst e
  rw [hs.cells k cells 81 hc (by decide) (by decide), hc]
theorem way_same {W W2 : World} {ab : Nat} {v : Value} {l : List Int} {base : Nat} (h : WayR W base v l) (hs : Same W W2 ab) : WayR W2 base v l := by
  have h0 := Kd.R_bound h
  refine Kd.R_mono (Kd.R_move h0 fun k hk => ?_) (fun _ _ => trivial)
  obtain ⟨_, _, _, q, hq, cells, hc⟩ := hk
  have e : q = 3 := by simpa [Kd.int, Kd.scalar] using hq
  subst e
  rw [hs.cells k cells 3 hc (by decide) (by decide), hc]
theorem reps_ints (R : Int → List Value → Prop) (hR : ∀ x, R x [.int .i64 x]) : ∀ l : List Int, Reps R 1 l (l.map (Value.int .i64)) := fun l => by
  refine ⟨by simp, fun j p hj => ?_⟩
  have e : ((l.map (Value.int .i64)).drop (j * 1)).take 1 = [.int .i64 p] := by
    have hl := (List.getElem?_eq_some_iff.1 hj)
    obtain ⟨h1, h2⟩ := hl
    rw [Nat.mul_one, List.drop_eq_getElem_cons (by simpa using h1)]
    simp [h2]
  rw [e]
  exact hR p
theorem way_of {W : World} {base : Nat} {v : Value} {l : List Int} (h : W.ownsRow base 3 1 v l.length (l.map (Value.int .i64))) : WayR W base v l :=
  ⟨fun _ _ => trivial, l.map (Value.int .i64), h, reps_ints ((Kd.int .i64).M W base _) (fun x => rfl) l⟩
theorem way_one (W : World) (base : Nat) (i : Int) (h : base ≤ W.heap.size) : WayR (W.alloc (.cells #[.int .i64 i] 3)) base (.slice (some ⟨W.heap.size, 0, none⟩) 1 1) [i] :=
  way_of (World.ownsRow_lit (base := base) (e := 3) (size := 1) W #[.int .i64 i] 1 h (by decide) rfl)
theorem owns_lower {W : World} {b base e size n : Nat} {v : Value} {xs : List Value} (h : W.ownsRow b e size v n xs) (hb : base ≤ b) : W.ownsRow base e size v n xs := by
  obtain ⟨h1, h2 | ⟨g, cap, cur, h3, h4, h5⟩⟩ := h
  · exact ⟨h1, .inl h2⟩
  · exact ⟨h1, .inr ⟨g, cap, cur, h3, Nat.le_trans hb h4, h5⟩⟩
theorem grown_none {W W2 : World} (h : W.grownBy W2 none) : Below W.heap.size W W2 := ⟨h.os, h.tape, h.output, h.size, fun k hk => h.block k hk (by simp)⟩
/-- One step more on a way whose slice is full: the old row stays. -/
theorem way_more {W : World} {base : Nat} {A : Option Addr} {c : Nat} {l : List Int} {i : Int} (h : WayR W base (.slice A l.length c) l) (hl : l.length ≤ 100000) (hb : base ≤ W.heap.size) {ad : Addr} (had : W.cell? (ad.add 0) = some (.int .i64 i)) :
    ∃ v W2, (Builtin.append_ #[36, 36] 36 #[.slice A l.length l.length, .slice (some ad) 1 1]).run Try.prog W = .ok v W2 ∧ WayR W2 base v (l ++ [i]) ∧ Below W.heap.size W W2 := by
  obtain ⟨inf, hi, hz0, hz1, hz2⟩ := info_parts (show (Try.prog.info? 3).map (fun i => (i.zero, i.size, i.bytes)) = some (some (.int .i64 0), 1, 8) from by kernel_rfl)
  obtain ⟨_, _, hC⟩ := Kd.R_reads' h
  have hc1 : ∀ j u, ([Value.int .i64 i] : List Value)[j]? = some u → W.cell? (ad.add j) = some u := fun j u hu => by
    have hj := (List.getElem?_eq_some_iff.1 hu).1
    simp at hj
    subst hj
    have hu2 : Value.int .i64 i = u := by simpa using hu
    rw [← hu2]
    exact had
  have key : ∃ v W2, (Builtin.append_ #[36, 36] 36 #[.slice A l.length l.length, .slice (some ad) 1 1]).run Try.prog W = .ok v W2 ∧ W2.ownsRow W.heap.size 3 1 v (l.length + 1) (l.map (Value.int .i64) ++ [.int .i64 i]) ∧ Below W.heap.size W W2 := by
    cases A with
    | none =>
      have hn : l = [] := by
        cases l with
        | nil => rfl
        | cons x t =>
          obtain ⟨ad2, _, e, _⟩ := Kd.C_get hC 0 0 (by omega) (by simp)
          cases e
      subst hn
      obtain ⟨v, W2, hrun, r1, r2, _⟩ := run_append_own (P := Try.prog) W W.heap.size 36 36 3 inf (.int .i64 0) 1 8 Try.underlying36 hi hz0 hz1 hz2 rfl (by decide) (.slice none 0 0) 0 [] (World.ownsRow_nil W _ 3 1) ad 1 1 [.int .i64 i] rfl hc1 (by simp [Value.oneCell']) (by decide) (by decide) (Nat.le_refl _)
      exact ⟨v, W2, hrun, r1, grown_none r2⟩
    | some b =>
      obtain ⟨v, W2, hrun, r1, r2⟩ := run_append_arg_grows (P := Try.prog) W 36 36 3 inf (.int .i64 0) 1 8 Try.underlying36 hi hz0 hz1 hz2 rfl (by decide) b l.length l.length (l.map (Value.int .i64)) (by simp) (fun j u hu => by
        rw [List.getElem?_map, Option.map_eq_some_iff] at hu
        obtain ⟨x, hx, rfl⟩ := hu
        have hj := (List.getElem?_eq_some_iff.1 hx).1
        obtain ⟨ad2, e, q⟩ := Kd.at_int hC (j : Int) (by omega) (by omega)
        have e' := Option.some.inj e
        rw [← e'] at q
        rw [Int.toNat_natCast] at q
        rw [q]
        have e2 : rd l (j : Int) = x := by rw [rd, Int.toNat_natCast, List.getD_eq_getElem?_getD, hx]; rfl
        rw [e2]) ad 1 1 [.int .i64 i] rfl hc1 (by omega) (by unfold maxLen; omega) (by omega)
      exact ⟨v, W2, hrun, r1, grown_none r2⟩
  obtain ⟨v, W2, hrun, r1, r2⟩ := key
  refine ⟨v, W2, hrun, way_of ?_, r2⟩
  have h9 := owns_lower r1 hb
  simpa using h9
end Go.Proofs.Ytiepinfcndefhaa.S
