/- The law SizesKeeps: its lists, in plain Lean; rows that came in, put into what is made. No condition. -/
import Derived.Test.YtiepinfcndefhaaSq
namespace Go.Proofs.Ytiepinfcndefhaa.S
open Go.RowKit Go.Proofs.YtiepinfcndefhaaW.PrintWords Go.Proofs.YtiepinfcndefhaaW.PrintLast Go.Proofs.YtiepinfcndefhaaW.PrintMore
set_option linter.unusedVariables false
set_option linter.unusedSimpArgs false

def dfC : Cl := ⟨.empty, .empty, []⟩
def fewL (l : List Cl) (out : Int) : Nat → List Cl
  | 0 => []
  | i + 1 => if (i : Int) = out then fewL l out i else fewL l out i ++ [l.getD i dfC]
def moreC (c : Cl) (b : Bool) (x : Ac) : Cl := ⟨c.src, c.dst, if b = true then c.arcs ++ [x] else c.arcs⟩
def moreL (l : List Cl) (at_ : Int) (x : Ac) : Nat → List Cl
  | 0 => []
  | i + 1 => moreL l at_ x i ++ [moreC (l.getD i dfC) (decide ((i : Int) = at_)) x]
theorem fewL_len (l : List Cl) (out : Int) : ∀ i, (fewL l out i).length ≤ i
  | 0 => Nat.le_refl _
  | i + 1 => by
    have := fewL_len l out i
    unfold fewL
    split
    · omega
    · simp; omega
theorem fewL_mem {l : List Cl} {out : Int} : ∀ i, i ≤ l.length → ∀ c ∈ fewL l out i, c ∈ l
  | 0, _, c, hc => by cases hc
  | i + 1, h, c, hc => by
    unfold fewL at hc
    split at hc
    · exact fewL_mem i (by omega) c hc
    · rcases List.mem_append.1 hc with hc | hc
      · exact fewL_mem i (by omega) c hc
      · rw [List.mem_singleton.1 hc, List.getD_eq_getElem?_getD, List.getElem?_eq_getElem (show i < l.length by omega)]
        exact List.getElem_mem _
theorem moreL_len (l : List Cl) (a : Int) (x : Ac) : ∀ i, (moreL l a x i).length = i
  | 0 => rfl
  | i + 1 => by unfold moreL; simp [moreL_len l a x i]
theorem moreL_get {l : List Cl} {a : Int} {x : Ac} : ∀ (n i : Nat) (hi : i < (moreL l a x n).length), (moreL l a x n)[i] = moreC (l.getD i dfC) (decide ((i : Int) = a)) x
  | 0, i, hi => by cases hi
  | n + 1, i, hi => by
    have hl := moreL_len l a x n
    have e : moreL l a x (n + 1) = moreL l a x n ++ [moreC (l.getD n dfC) (decide ((n : Int) = a)) x] := rfl
    by_cases h : i < n
    · have h2 : (moreL l a x (n + 1))[i]? = (moreL l a x n)[i]? := by rw [e, List.getElem?_append_left (by omega)]
      rw [List.getElem?_eq_getElem hi, List.getElem?_eq_getElem (by omega)] at h2
      rw [Option.some.inj h2]
      exact moreL_get n i (by omega)
    · have hi' : i = n := by rw [moreL_len] at hi; omega
      subst hi'
      have h2 : (moreL l a x (i + 1))[i]? = some (moreC (l.getD i dfC) (decide ((i : Int) = a)) x) := by rw [e, List.getElem?_append_right (by omega), hl, Nat.sub_self]; rfl
      rw [List.getElem?_eq_getElem hi] at h2
      exact Option.some.inj h2
/-- Calls whose arcs lie in the world w0. -/
def kOld (w0 : World) : Kd Cl where
  sz := 3
  E := []
  K := fun _ x cs => ∃ A c, cs = [.string x.src, .string x.dst, .slice A x.arcs.length c] ∧ x.arcs.length ≤ c ∧ kAc.C w0 A x.arcs.length x.arcs
  M := fun _ _ _ x cs => ∃ A c, cs = [.string x.src, .string x.dst, .slice A x.arcs.length c] ∧ x.arcs.length ≤ c ∧ kAc.C w0 A x.arcs.length x.arcs
  K_len := by rintro _ _ _ ⟨A, c, rfl, _⟩; rfl
  K_one := by
    rintro _ _ _ ⟨A, c, rfl, _⟩ u hu
    simp only [List.mem_cons, List.not_mem_nil, or_false] at hu
    rcases hu with rfl | rfl | rfl <;> rfl
  K_below := fun _ h => h
  K_of_M := fun h => h
  M_mono := fun _ h => h
  M_bound := fun h => h
  M_move := fun _ h => h
  M_lower := fun _ h => h
theorem old_C {w0 w : World} {A : Option Addr} {n : Nat} {l : List Cl} (h : (kOld w0).C w A n l) (hb : Below w0.heap.size w0 w) : kCl.C w A n l := by
  refine ReadsRow.imp_ h (Below.refl _ _) (fun p c hp => ?_)
  obtain ⟨A, c, rfl, h1, h2⟩ := hp
  exact ⟨[.string p.src], _, rfl, rfl, [.string p.dst], _, rfl, rfl, A, c, rfl, h1, Kd.C_below h2 hb⟩
theorem info34 : (Try.prog.info? 34).map (fun i => (i.zero, i.size, i.bytes)) = some (some (.agg #[.string .empty, .string .empty, .slice none 0 0]), 3, 56) := by kernel_rfl
theorem info24 : (Try.prog.info? 24).map (fun i => (i.zero, i.size, i.bytes)) = some (some (.agg #[.int .i64 0, .int .i64 0, .bool false]), kAc.sz, 24) := by kernel_rfl
theorem ac_one {x : Ac} {c : List Value} {w : World} (h : kAc.K w x c) : c = [.int .i64 x.a, .int .i64 x.b, .bool x.s] := by
  obtain ⟨_, _, rfl, rfl, _, _, rfl, rfl, rfl⟩ := h
  rfl
/-- append(nil, arcs...): a row of one's own. -/
theorem arcs_copy {W : World} {A : Option Addr} {c : Nat} {l : List Ac} (h : kAc.C W A l.length l) (hl : l.length ≤ 1000000) :
    ∃ v W2, (Builtin.append_ #[32, 32] 32 #[.slice none 0 0, .slice A l.length c]).run Try.prog W = .ok v W2 ∧ kAc.R 24 W2 W.heap.size (fun _ => True) v l ∧ Below W.heap.size W W2 := by
  obtain ⟨i0, hi, hz0, hz1, hz2⟩ := info_parts info24
  rcases A with _ | ad
  · have h0 : l = [] := by
      cases l with
      | nil => rfl
      | cons x t =>
        obtain ⟨ad, e, _⟩ := h.2.2 (by simp)
        cases e
    subst h0
    refine ⟨.slice none 0 0, W, ?_, Kd.R_nil _ _ _ _ _, Below.refl _ _⟩
    simp [Builtin.append_, run_underlying Try.underlying32, sizeOf, typeInfo, hi, Builtin.lenOf, Builtin.firstCells]
  · obtain ⟨news, hnr, hnc⟩ := ReadsRow.inner_ h
    have hone : ∀ u ∈ news, u.oneCell' = true := Kd.reps_one hnr (by decide) (fun p c hp => kAc.K_one hp)
    obtain ⟨v, W2, hrun, r1, r2, _⟩ := run_append_own (P := Try.prog) W W.heap.size 32 32 24 i0 (.agg #[.int .i64 0, .int .i64 0, .bool false]) 3 24 Try.underlying32 hi hz0 hz1 hz2 rfl (by decide) (.slice none 0 0) 0 [] (World.ownsRow_nil W _ 24 3) ad l.length c news hnr.1 hnc hone (by unfold maxLen; omega) (by omega) (Nat.le_refl _)
    refine ⟨v, W2, hrun, ⟨fun _ _ => trivial, news, (by have h9 := r1; simp only [Nat.zero_add, List.nil_append] at h9; exact h9), ?_⟩, grown_none r2⟩
    refine hnr.imp_ (fun p c hp => ?_)
    rw [ac_one hp]
    exact ⟨[.int .i64 p.a], [.int .i64 p.b, .bool p.s], rfl, rfl, [.int .i64 p.b], [.bool p.s], rfl, rfl, rfl⟩
theorem call_M {W : World} {base : Nat} {ok : Nat → Prop} {c : Cl} {v : Value} (h : kAc.R 24 W base ok v c.arcs) : kCl.M W base ok c [.string c.src, .string c.dst, v] := ⟨[.string c.src], _, rfl, rfl, [.string c.dst], [v], rfl, rfl, v, rfl, h⟩
theorem ac_M {W : World} {base : Nat} {ok : Nat → Prop} {x : Ac} : kAc.M W base ok x [.int .i64 x.a, .int .i64 x.b, .bool x.s] := ⟨[.int .i64 x.a], _, rfl, rfl, [.int .i64 x.b], _, rfl, rfl, rfl⟩
theorem cl_get2 {w : World} {A : Option Addr} {l : List Cl} (h : kCl.C w A l.length l) (i : Nat) (hi : i < l.length) : ∃ ad A1 cp, A = some ad ∧ l[i].arcs.length ≤ cp ∧ kAc.C w A1 l[i].arcs.length l[i].arcs ∧ ∀ W, Below w.heap.size w W → W.cell? (ad.add (i * 3)) = some (.string l[i].src) ∧ W.cell? ⟨(ad.add (i * 3)).block, (ad.add (i * 3)).off + 1, none⟩ = some (.string l[i].dst) ∧
    W.cell? ⟨(ad.add (i * 3)).block, (ad.add (i * 3)).off + 2, none⟩ = some (.slice A1 l[i].arcs.length cp) := by
  obtain ⟨ad, c, e, _, hk, hc⟩ := Kd.C_get h (⟨.empty, .empty, []⟩ : Cl) (i : Int) (by omega) (by omega)
  rw [Int.toNat_natCast] at hk hc
  rw [show l.getD i (⟨.empty, .empty, []⟩ : Cl) = l[i] by rw [List.getD_eq_getElem?_getD, List.getElem?_eq_getElem hi]; rfl] at hk
  obtain ⟨c0, c1, rfl, rfl, c2, c3, rfl, rfl, A1, cp, rfl, hcp, hr⟩ := hk
  have e1 : ad.add (i * 3 + 1) = ⟨(ad.add (i * 3)).block, (ad.add (i * 3)).off + 1, none⟩ := (Addr.add_add ad (i * 3) 1).symm.trans (by simp [Addr.add])
  have e2 : ad.add (i * 3 + 2) = ⟨(ad.add (i * 3)).block, (ad.add (i * 3)).off + 2, none⟩ := (Addr.add_add ad (i * 3) 2).symm.trans (by simp [Addr.add])
  have q0 : w.cell? (ad.add (i * 3)) = some (.string l[i].src) := hc 0 _ rfl
  have q1 : w.cell? (ad.add (i * 3 + 1)) = some (.string l[i].dst) := hc 1 _ rfl
  have q2 : w.cell? (ad.add (i * 3 + 2)) = some (.slice A1 l[i].arcs.length cp) := hc 2 _ rfl
  rw [e1] at q1
  rw [e2] at q2
  exact ⟨ad, A1, cp, e, hcp, hr, fun W hb => ⟨(hb.cell (World.block_lt_of_cell? w _ q0)).trans q0, (hb.cell (World.block_lt_of_cell? w _ q1)).trans q1, (hb.cell (World.block_lt_of_cell? w _ q2)).trans q2⟩⟩
theorem blk3 {W : World} {b : Nat} {c : Array Value} {t : TypeId} {n : Nat} {W2 : World} (h : W.heap[b]? = some (.cells c t (0, 0))) (hb : Below W.heap.size W W2) : W2.heap[b]? = some (.cells c t (0, 0)) := blk_below h hb
end Go.Proofs.Ytiepinfcndefhaa.S
