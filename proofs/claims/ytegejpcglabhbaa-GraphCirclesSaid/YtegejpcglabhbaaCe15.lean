/- A part of this claim's proof: texts of its author, and printed ones, packed by a program of its author's. -/
import Derived.Test.YtegejpcglabhbaaCe14
import Derived.Test.YtegejpcglabhbaaCe13
namespace Go.Proofs.Ytegejpcglabhbaa.G
open Go.RowKit Go.Proofs.YtegejpcglabhbaaW.PrintWords Go.Proofs.YtegejpcglabhbaaW.PrintLast Go.Proofs.YtegejpcglabhbaaW.PrintMore
set_option linter.unusedVariables false
set_option linter.unusedSimpArgs false
theorem awake_at : tenetlaw02_awake.f 60 = some true := by kernel_rfl
theorem awake_k (k : Nat) (hk : 60 ≤ k) : tenetlaw02_awake.f k = some true := at_rounds (fun k => tenetlaw02_awake.mono k) hk awake_at
theorem Ev.pos {α : Type} {c : Prop} [Decidable c] {g f : Nat → Option α} {r : α} (h : c) (k : Ev g r) : Ev (fun n => if c then g n else f n) r := k.congr fun n => if_pos h
theorem Ev.neg {α : Type} {c : Prop} [Decidable c] {g f : Nat → Option α} {r : α} (h : ¬ c) (k : Ev f r) : Ev (fun n => if c then g n else f n) r := k.congr fun n => if_neg h
theorem Ev.both {α : Type} {c : Prop} [Decidable c] {g f : Nat → Option α} {r : α} (k1 : c → Ev g r) (k2 : ¬ c → Ev f r) : Ev (fun n => if c then g n else f n) r := by
 by_cases h : c
 ·exact Ev.pos h (k1 h)
 ·exact Ev.neg h (k2 h)
theorem Ev.all {α : Type} {g : Nat → Option α} {r : α} (K : Nat) (h : ∀ k, K ≤ k → g k = some r) : Ev g r := ⟨K, h⟩
theorem ev_awake : Ev (fun k => tenetlaw02_awake.f k) true := ⟨60, awake_k⟩
theorem ev_valid (n : Int) (l : List S44) : Ev (fun k => tenetref02_Valid.f k n l) (validB n l) := ⟨4000, fun k hk => valid_eq n l k hk⟩
structure Sol (n : Nat) (E : List S105) (val : Nat → Int) : Prop where
 zero : val n = 0
 arc : ∀ a ∈ E, val a.f0.toNat + a.f2 ≤ val a.f1.toNat
theorem Sol.closed {n : Nat} {E : List S105} {val : Nat → Int} (h : Sol n E val) (s : Nat) : Closed E s (fun _ => true) (fun v => val v - val s) :=
 ⟨rfl, by show 0 ≤ val s - val s; omega, fun a ha _ => ⟨rfl, by have := h.arc a ha; show val a.f0.toNat - val s + a.f2 ≤ val a.f1.toNat - val s; omega⟩⟩
theorem Sol.no_loop {n : Nat} {E : List S105} {val : Nat → Int} (h : Sol n E val) {s : Nat} {l : List S105} (hl : LoopOk n E s l) : False := (h.closed s).no_loop hl
theorem Sol.walk {n : Nat} {E : List S105} {val : Nat → Int} (h : Sol n E val) {s v : Nat} {d : Int} (hw : Walk E s v d) : val s + d ≤ val v := by
 have := ((h.closed s).walk hw).2
 have h2 : d ≤ val v - val s := this
 omega
theorem far_done {n s : Nat} {E : List S105} {st : FSt} (h : FarPost n s E (.done st)) (hn : n ≤ 1200) (hE : ArcsOk n E) (hs : s ≤ n) :
  Longest n E s (kn st) (sm st) ∧ st.sum.length = n + 1 ∧ st.known.length = n + 1 ∧ ∀ v, v ≤ n → kn st v = true → -(1000 * (n + 1 : Nat) : Int) ≤ sm st v ∧ sm st v ≤ 1000 * (n : Int) := by
 obtain ⟨P, tm, T, hh⟩ := h
 refine ⟨hh.longest hn hE hs, hh.core.len.sum, hh.core.len.known, fun v hv hk => ⟨?_, hh.core.ub v hv hk⟩⟩
 have := hh.core.lb v hv hk
 have := cnt_le n st
 omega
structure Least (n : Nat) (E : List S105) (r : List Int) : Prop where
 len : r.length = n
 sol : Sol n E (fun v => r.getD v 0)
 low : ∀ v, 0 ≤ r.getD v 0
 high : ∀ v, r.getD v 0 ≤ 1200000
 long : Longest n E n (fun _ => true) (fun v => r.getD v 0)
theorem Least.le {n : Nat} {E : List S105} {r : List Int} (h : Least n E r) {val : Nat → Int} (hv : Sol n E val) (v : Nat) (hvn : v ≤ n) : r.getD v 0 ≤ val v := by
 have h1 := hv.walk (h.long.walk v hvn rfl)
 have h2 := hv.zero
 have h3 : val n + r.getD v 0 ≤ val v := h1
 omega
theorem getD_ge {r : List Int} {v : Nat} (h : r.length ≤ v) : r.getD v 0 = 0 := by
 rw [List.getD_eq_getElem?_getD, List.getElem?_eq_none h]
 rfl
theorem Least.unique {n : Nat} {E E2 : List S105} {r r2 : List Int} (h : Least n E r) (h2 : Least n E2 r2) (hv : Sol n E2 (fun v => r.getD v 0)) (hv2 : Sol n E (fun v => r2.getD v 0)) : r = r2 := by
 apply List.ext_getElem (by rw [h.len, h2.len])
 intro i hi hi2
 have hin : i ≤ n := by rw [← h.len]; omega
 have a := h.le hv2 i hin
 have b := h2.le hv i hin
 have ea : r.getD i 0 = r[i] := by rw [List.getD_eq_getElem?_getD, List.getElem?_eq_getElem hi]; rfl
 have eb : r2.getD i 0 = r2[i] := by rw [List.getD_eq_getElem?_getD, List.getElem?_eq_getElem hi2]; rfl
 rw [ea] at a b
 rw [eb] at a b
 omega
theorem least_of {n : Nat} {l : List S44} {which : List Int} (hs : SysOk n l) (hw : Which l which) {st : FSt} (h : FarPost n n (allArcs n l which) (.done st)) : Least n (allArcs n l which) (st.sum.take n) := by
 have hE := sys_arcs hs hw
 obtain ⟨hl, h1, h2, h3⟩ := far_done h hs.n1 hE (Nat.le_refl n)
 have hk := all_known hl.closed
 have hlen : (st.sum.take n).length = n := by rw [List.length_take]; omega
 have hget : ∀ v, v ≤ n → (st.sum.take n).getD v 0 = sm st v := fun v hv => by
  by_cases e : v = n
  ·rw [getD_ge (by omega), e, hl.zero]
  ·rw [List.getD_eq_getElem?_getD, List.getElem?_take, if_pos (by omega)]
   unfold sm
   rw [List.getD_eq_getElem?_getD]
 have hlong : Longest n (allArcs n l which) n (fun _ => true) (fun v => (st.sum.take n).getD v 0) := by
  refine ⟨⟨rfl, ?_, fun a ha _ => ⟨rfl, ?_⟩⟩, ?_, fun v hv _ => ?_, fun v hv _ => ?_⟩
  ·show 0 ≤ (st.sum.take n).getD n 0
   rw [getD_ge (by omega)]
   omega
  ·have hb := hE a ha
   show (st.sum.take n).getD a.f0.toNat 0 + a.f2 ≤ (st.sum.take n).getD a.f1.toNat 0
   rw [hget _ (by omega), hget _ (by omega)]
   exact (hl.closed.arc a ha (hk _ (by omega))).2
  ·exact getD_ge (by omega)
  ·show Walk _ n v ((st.sum.take n).getD v 0)
   rw [hget v hv]
   exact hl.walk v hv (hk v hv)
  ·obtain ⟨m, hm, ht⟩ := hl.tight v hv (hk v hv)
   refine ⟨m, hm, ?_⟩
   have key : ∀ m v, v ≤ n → Tight (allArcs n l which) (sm st) n m v → Tight (allArcs n l which) (fun v => (st.sum.take n).getD v 0) n m v := by
    intro m
    induction m with
    | zero => intro v _ ht; cases ht with | nil => exact .nil
    | succ m ih =>
     intro v hv ht
     cases ht with
     | @snoc m x t a hx ha h0 h1 he =>
      have hb := hE a ha
      refine .snoc (ih x (by omega) hx) ha h0 h1 ?_
      show (st.sum.take n).getD v 0 = (st.sum.take n).getD x 0 + a.f2
      rw [hget v hv, hget x (by omega), he]
   exact key m v hv ht
 refine ⟨hlen, ⟨hlong.zero, fun a ha => (hlong.closed.arc a ha rfl).2⟩, fun v => ?_, fun v => ?_, hlong⟩
 ·by_cases e : v < n
  ·have := (hlong.closed.arc _ (nat_mem e l which) rfl).2
   simp only [natArc, Int.toNat_natCast] at this
   rw [getD_ge (Nat.le_of_eq hlen)] at this
   omega
  ·rw [getD_ge (by omega)]
   omega
 ·by_cases e : v < n
  ·rw [hget v (by omega)]
   have := (h3 v (by omega) (hk v (by omega))).2
   have := hs.n1
   omega
  ·rw [getD_ge (by omega)]
   omega
def sysArcs (n : Nat) (l : List S44) : List S105 := allArcs n l (upTo l.length)
theorem Solve_ev {n : Nat} {l : List S44} (hv : validB (n : Int) l = true) {r : List Int × Int} (h : Ev (fun k => solvedN k n l) r) : Ev (fun k => graph_Solve.f k (n : Int) l) r := h.congr fun k => by
 unfold graph_Solve.f
 rw [if_pos hv, Int.toNat_natCast]
theorem mem_sysArcs {n : Nat} {l : List S44} {a : S105} : a ∈ sysArcs n l ↔ (∃ v, v < n ∧ a = natArc n v) ∨ ∃ i, ∃ h : i < l.length, a ∈ arcsOf n (i : Int) l[i] := by
 unfold sysArcs allArcs natArcs upTo
 rw [List.mem_append]
 constructor
 ·rintro (h | h)
  ·obtain ⟨v, hv, rfl⟩ := List.mem_map.1 h
   exact .inl ⟨v, List.mem_range.1 hv, rfl⟩
  ·obtain ⟨j, hj, ha⟩ := List.mem_flatMap.1 h
   obtain ⟨i, hi, rfl⟩ := List.mem_map.1 hj
   have hi2 := List.mem_range.1 hi
   rw [rd44 l i hi2] at ha
   exact .inr ⟨i, hi2, ha⟩
 ·rintro (⟨v, hv, rfl⟩ | ⟨i, hi, ha⟩)
  ·exact .inl (List.mem_map.2 ⟨v, List.mem_range.2 hv, rfl⟩)
  ·refine .inr (List.mem_flatMap.2 ⟨(i : Int), List.mem_map.2 ⟨i, List.mem_range.2 hi, rfl⟩, ?_⟩)
   rw [rd44 l i hi]
   exact ha
end Go.Proofs.Ytegejpcglabhbaa.G
