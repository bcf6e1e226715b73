/- A part of this claim's proof: texts of its author, and printed ones, packed by a program of its author's. -/
import Derived.Test.YtegejpcglabhbaaCd14
import Derived.Test.YtegejpcglabhbaaCd13
import Derived.Test.YtegejpcglabhbaaCd9
import Derived.Deep.DeepCutAuto
import Derived.Deep.CutBlock
import Derived.Test.YtegejpcglabhbaaCd11
namespace Go.Proofs.Ytegejpcglabhbaa.G
open Go.RowKit Go.Proofs.YtegejpcglabhbaaW.PrintWords Go.Proofs.YtegejpcglabhbaaW.PrintLast Go.Proofs.YtegejpcglabhbaaW.PrintMore
set_option linter.unusedVariables false
set_option linter.unusedSimpArgs false
theorem awake_at : tenetlaw02_awake.f 60 = some true := by kernel_rfl
theorem awake_k (k : Nat) (hk : 60 ≤ k) : tenetlaw02_awake.f k = some true := at_rounds (fun k => tenetlaw02_awake.mono k) hk awake_at
theorem Ev.pos {α : Type} {c : Prop} [Decidable c] {g f : Nat → Option α} {r : α} (h : c) (k : Ev g r) : Ev (fun n => if c then g n else f n) r := k.congr fun n => if_pos h
theorem Ev.neg {α : Type} {c : Prop} [Decidable c] {g f : Nat → Option α} {r : α} (h : ¬ c) (k : Ev f r) : Ev (fun n => if c then g n else f n) r := k.congr fun n => if_neg h
theorem Ev.both {α : Type} {c : Prop} [Decidable c] {g f : Nat → Option α} {r : α} (k1 : c → Ev g r) (k2 : ¬ c → Ev f r) : Ev (fun n => if c then g n else f n) r := by
 by_cases h : c
 ·exact Ev.pos h (k1 h)
 ·exact Ev.neg h (k2 h)
theorem Ev.all {α : Type} {g : Nat → Option α} {r : α} (K : Nat) (h : ∀ k, K ≤ k → g k = some r) : Ev g r := ⟨K, h⟩
theorem ev_awake : Ev (fun k => tenetlaw02_awake.f k) true := ⟨60, awake_k⟩
theorem ev_heavy (n : Int) (l : List S44) (m : Int) (hm : m ≤ 1000) : Ev (fun k => tenetlaw02_heavy.f k n l m) true ∨ (n ≤ m ∧ (l.length : Int) ≤ m ∧ Ev (fun k => tenetlaw02_heavy.f k n l m) false) := by
 rcases heavy_eq n l m hm 1002 (Nat.le_refl _) with h | ⟨h1, h2, h⟩
 ·exact .inl (Ev.of (fun k => tenetlaw02_heavy.mono n l m k) h)
 ·exact .inr ⟨h1, h2, Ev.of (fun k => tenetlaw02_heavy.mono n l m k) h⟩
theorem ev_valid (n : Int) (l : List S44) : Ev (fun k => tenetref02_Valid.f k n l) (validB n l) := ⟨4000, fun k hk => valid_eq n l k hk⟩
structure Sol (n : Nat) (E : List S105) (val : Nat → Int) : Prop where
 zero : val n = 0
 arc : ∀ a ∈ E, val a.f0.toNat + a.f2 ≤ val a.f1.toNat
theorem Sol.closed {n : Nat} {E : List S105} {val : Nat → Int} (h : Sol n E val) (s : Nat) : Closed E s (fun _ => true) (fun v => val v - val s) :=
 ⟨rfl, by show 0 ≤ val s - val s; omega, fun a ha _ => ⟨rfl, by have := h.arc a ha; show val a.f0.toNat - val s + a.f2 ≤ val a.f1.toNat - val s; omega⟩⟩
theorem Sol.no_loop {n : Nat} {E : List S105} {val : Nat → Int} (h : Sol n E val) {s : Nat} {l : List S105} (hl : LoopOk n E s l) : False := (h.closed s).no_loop hl
theorem Sol.walk {n : Nat} {E : List S105} {val : Nat → Int} (h : Sol n E val) {s v : Nat} {d : Int} (hw : Walk E s v d) : val s + d ≤ val v := by
 have := ((h.closed s).walk hw).2
 have h2 : d ≤ val v - val s := this
 omega
theorem far_done {n s : Nat} {E : List S105} {st : FSt} (h : FarPost n s E (.done st)) (hn : n ≤ 1200) (hE : ArcsOk n E) (hs : s ≤ n) :
  Longest n E s (kn st) (sm st) ∧ st.sum.length = n + 1 ∧ st.known.length = n + 1 ∧ ∀ v, v ≤ n → kn st v = true → -(1000 * (n + 1 : Nat) : Int) ≤ sm st v ∧ sm st v ≤ 1000 * (n : Int) := by
 obtain ⟨P, tm, T, hh⟩ := h
 refine ⟨hh.longest hn hE hs, hh.core.len.sum, hh.core.len.known, fun v hv hk => ⟨?_, hh.core.ub v hv hk⟩⟩
 have := hh.core.lb v hv hk
 have := cnt_le n st
 omega
structure Least (n : Nat) (E : List S105) (r : List Int) : Prop where
 len : r.length = n
 sol : Sol n E (fun v => r.getD v 0)
 low : ∀ v, 0 ≤ r.getD v 0
 high : ∀ v, r.getD v 0 ≤ 1200000
 long : Longest n E n (fun _ => true) (fun v => r.getD v 0)
theorem Least.le {n : Nat} {E : List S105} {r : List Int} (h : Least n E r) {val : Nat → Int} (hv : Sol n E val) (v : Nat) (hvn : v ≤ n) : r.getD v 0 ≤ val v := by
 have h1 := hv.walk (h.long.walk v hvn rfl)
 have h2 := hv.zero
 have h3 : val n + r.getD v 0 ≤ val v := h1
 omega
theorem getD_ge {r : List Int} {v : Nat} (h : r.length ≤ v) : r.getD v 0 = 0 := by
 rw [List.getD_eq_getElem?_getD, List.getElem?_eq_none h]
 rfl
theorem Least.unique {n : Nat} {E E2 : List S105} {r r2 : List Int} (h : Least n E r) (h2 : Least n E2 r2) (hv : Sol n E2 (fun v => r.getD v 0)) (hv2 : Sol n E (fun v => r2.getD v 0)) : r = r2 := by
 apply List.ext_getElem (by rw [h.len, h2.len])
 intro i hi hi2
 have hin : i ≤ n := by rw [← h.len]; omega
 have a := h.le hv2 i hin
 have b := h2.le hv i hin
 have ea : r.getD i 0 = r[i] := by rw [List.getD_eq_getElem?_getD, List.getElem?_eq_getElem hi]; rfl
 have eb : r2.getD i 0 = r2[i] := by rw [List.getD_eq_getElem?_getD, List.getElem?_eq_getElem hi2]; rfl
 rw [ea] at a b
 rw [eb] at a b
 omega
theorem least_of {n : Nat} {l : List S44} {which : List Int} (hs : SysOk n l) (hw : Which l which) {st : FSt} (h : FarPost n n (allArcs n l which) (.done st)) : Least n (allArcs n l which) (st.sum.take n) := by
 have hE := sys_arcs hs hw
 obtain ⟨hl, h1, h2, h3⟩ := far_done h hs.n1 hE (Nat.le_refl n)
 have hk := all_known hl.closed
 have hlen : (st.sum.take n).length = n := by rw [List.length_take]; omega
 have hget : ∀ v, v ≤ n → (st.sum.take n).getD v 0 = sm st v := fun v hv => by
  by_cases e : v = n
  ·rw [getD_ge (by omega), e, hl.zero]
  ·rw [List.getD_eq_getElem?_getD, List.getElem?_take, if_pos (by omega)]
   unfold sm
   rw [List.getD_eq_getElem?_getD]
 have hlong : Longest n (allArcs n l which) n (fun _ => true) (fun v => (st.sum.take n).getD v 0) := by
  refine ⟨⟨rfl, ?_, fun a ha _ => ⟨rfl, ?_⟩⟩, ?_, fun v hv _ => ?_, fun v hv _ => ?_⟩
  ·show 0 ≤ (st.sum.take n).getD n 0
   rw [getD_ge (by omega)]
   omega
  ·have hb := hE a ha
   show (st.sum.take n).getD a.f0.toNat 0 + a.f2 ≤ (st.sum.take n).getD a.f1.toNat 0
   rw [hget _ (by omega), hget _ (by omega)]
   exact (hl.closed.arc a ha (hk _ (by omega))).2
  ·exact getD_ge (by omega)
  ·show Walk _ n v ((st.sum.take n).getD v 0)
   rw [hget v hv]
   exact hl.walk v hv (hk v hv)
  ·obtain ⟨m, hm, ht⟩ := hl.tight v hv (hk v hv)
   refine ⟨m, hm, ?_⟩
   have key : ∀ m v, v ≤ n → Tight (allArcs n l which) (sm st) n m v → Tight (allArcs n l which) (fun v => (st.sum.take n).getD v 0) n m v := by
    intro m
    induction m with
    | zero => intro v _ ht; cases ht with | nil => exact .nil
    | succ m ih =>
     intro v hv ht
     cases ht with
     | @snoc m x t a hx ha h0 h1 he =>
      have hb := hE a ha
      refine .snoc (ih x (by omega) hx) ha h0 h1 ?_
      show (st.sum.take n).getD v 0 = (st.sum.take n).getD x 0 + a.f2
      rw [hget v hv, hget x (by omega), he]
   exact key m v hv ht
 refine ⟨hlen, ⟨hlong.zero, fun a ha => (hlong.closed.arc a ha rfl).2⟩, fun v => ?_, fun v => ?_, hlong⟩
 ·by_cases e : v < n
  ·have := (hlong.closed.arc _ (nat_mem e l which) rfl).2
   simp only [natArc, Int.toNat_natCast] at this
   rw [getD_ge (Nat.le_of_eq hlen)] at this
   omega
  ·rw [getD_ge (by omega)]
   omega
 ·by_cases e : v < n
  ·rw [hget v (by omega)]
   have := (h3 v (by omega) (hk v (by omega))).2
   have := hs.n1
   omega
  ·rw [getD_ge (by omega)]
   omega
def sysArcs (n : Nat) (l : List S44) : List S105 := allArcs n l (upTo l.length)
def tenetref02_longest.T10 : Bool × List (List Nat × List Nat) := (true, [([], []), ([], []), ([], []), ([1, 2], [1, 2]), ([3], [3]), ([4], [4]), ([0, 5], [0, 5]), ([6], [6]), ([], []), ([], []), ([], []), ([9, 10], [9, 10]), ([11], [11]), ([12], [12]), ([8, 13], [8, 13]), ([14], [14]), ([], []), ([], []), ([16, 7, 0, 1, 2, 3, 4, 5, 6, 7, 16, 17], [7, 16]), ([17, 15, 18, 0, 1, 2, 3, 4, 5, 6, 7, 8, 9, 10, 11, 12, 13, 14, 15, 16, 17, 18], [15, 17])])
def tenetref02_longest.B10 : List Nat := [0, 0, 0, 6, 14, 30, 63, 127, 0, 0, 0, 1536, 3584, 7680, 16128, 32512, 0, 0, 196863, 524287]
theorem tenetref02_longest.tab10 : rtab .any (opsOf Try.f63 10) = tenetref02_longest.T10 := by kernel_rfl
theorem tenetref02_longest.bits10 : waitsOk tenetref02_longest.T10.2 tenetref02_longest.B10 = true := by kernel_rfl
def lgo : List S108 → List S94 → Bool → List S94 × Bool
 | [], out, more => (out, more)
 | e :: es, out, more => if (out.getD e.f0.toNat z94).f0 = true ∧ ((out.getD e.f1.toNat z94).f0 = false ∨ (out.getD e.f1.toNat z94).f1 < wrap64 ((out.getD e.f0.toNat z94).f1 + e.f2))
  then lgo es (out.set e.f1.toNat ⟨true, wrap64 ((out.getD e.f0.toNat z94).f1 + e.f2)⟩) true else lgo es out more
def lrounds (es : List S108) : Nat → List S94 → List S94 × Bool
 | 0, _ => ([], false)
 | k + 1, out => if (lgo es out false).2 = true then lrounds es k (lgo es out false).1 else ((lgo es out false).1, true)
def edgesOk (n : Nat) (es : List S108) : Prop := ∀ e ∈ es, 0 ≤ e.f0 ∧ e.f0 ≤ n ∧ 0 ≤ e.f1 ∧ e.f1 ≤ n
instance (n : Nat) (es : List S108) : Decidable (edgesOk n es) := by unfold edgesOk; infer_instance
def tenetref02_longest.f (_k : Nat) (a0 : Int) (l1 : List S108) (a2 : Int) : Option (List S94 × Bool) :=
 if 0 ≤ a0 ∧ a0 ≤ 1200 ∧ 0 ≤ a2 ∧ a2 ≤ a0 ∧ edgesOk a0.toNat l1 then some (lrounds l1 (a0.toNat + 2) ((List.replicate (a0.toNat + 1) ⟨false, 0⟩).set a2.toNat ⟨true, 0⟩)) else none
theorem tenetref02_longest.mono : ∀ a0 a1 a2 k, LeO (tenetref02_longest.f k a0 a1 a2) (tenetref02_longest.f (k + 1) a0 a1 a2) := fun _ _ _ _ => LeO.refl _
theorem drop108 {l : List S108} {i : Nat} (hlt : i < l.length) : l.drop i = rd_T108 l i :: l.drop (i + 1) := by
 rw [List.drop_eq_getElem_cons hlt]
 simp [rd_T108, List.getD_eq_getElem?_getD, List.getElem?_eq_getElem hlt]
theorem mem_rd108 {l : List S108} {i : Nat} (h : i < l.length) : rd_T108 l i ∈ l := by
 have : rd_T108 l i = l[i] := by simp [rd_T108, List.getD_eq_getElem?_getD, List.getElem?_eq_getElem h]
 rw [this]
 exact List.getElem_mem h
set_option maxHeartbeats 4000000 in
set_option maxRecDepth 100000 in
theorem tenetref02_longest.calls (k : Nat) (a0 : Int) (A1 : Option Addr) (c1 : Nat) (es : List (S108)) (a2 : Int) (r1 : List (S94)) (r2 : Bool) (w : World) (hr1 : Kd.C k108 w A1 es.length es) (hc1 : es.length ≤ c1) (h : tenetref02_longest.f k a0 es a2 = some (r1, r2)) :
  Calls Try.prog 63 #[.int .i64 a0, .slice A1 es.length c1, .int .i64 a2] w fun e w' => ∃ v0_ : Value, e = .returned (.tuple #[v0_, .bool r2]) ∧ Kd.R k94 94 w' w.heap.size (fun _ => True) v0_ r1 ∧ Below w.heap.size w w' := by
 unfold tenetref02_longest.f at h
 obtain ⟨hp, hq⟩ : (0 ≤ a0 ∧ a0 ≤ 1200 ∧ 0 ≤ a2 ∧ a2 ≤ a0 ∧ edgesOk a0.toNat es) ∧ lrounds es (a0.toNat + 2) ((List.replicate (a0.toNat + 1) ⟨false, 0⟩).set a2.toNat ⟨true, 0⟩) = (r1, r2) := by
  split at h
  ·rename_i hp; exact ⟨hp, Option.some.inj h⟩
  ·cases h
 obtain ⟨h0, h1, h2, h3, he⟩ := hp
 obtain ⟨n, rfl⟩ := Int.eq_ofNat_of_zero_le h0
 obtain ⟨s, rfl⟩ := Int.eq_ofNat_of_zero_le h2
 simp only [Int.toNat_natCast] at hq he
 clear h
 have HR := Aside0.mk hr1
 have HC := Aside0.mk hc1
 have hm63 : es.length ≤ 9223372036854775807 := hr1.2.1
 have HE := Aside0.mk he
 have H := Aside0.mk hq
 have HB := Aside0.mk (Below.refl w.heap.size w)
 clear hr1 hc1 he h0 h2
 clear hq
 have hmk := make_cells Try.prog 88 94 (.agg #[.bool false, .int .i64 0]) 2 16 Try.underlying88 info94 (n + 1) (by omega) (by omega)
 rw [madeW, Int.natCast_succ] at hmk
 have hlr : (List.replicate (n + 1) (⟨false, 0⟩ : S94)).length = n + 1 := List.length_replicate
 have hgr : (List.replicate (n + 1) (⟨false, 0⟩ : S94)).getD s z94 = ⟨false, 0⟩ := by rw [List.getD_eq_getElem?_getD, List.getElem?_replicate, if_pos (by omega)]; rfl
 have zc : (w.alloc (.cells (encW (List.replicate (n + 1) ⟨false, 0⟩)) 94)).cell? ⟨w.heap.size, s * 2, none⟩ = some (.bool false) := (blk_cell (blk_new w _) _).trans ((encW_get (by omega)).1.trans (by rw [hgr]))
 have HS1 := Aside0.mk (encW_set1 (List.replicate (n + 1) ⟨false, 0⟩) s true (by omega))
 rw [hgr] at HS1
 clear hlr hgr
 have hs1 : ((s : Int) < (n : Int) + 1) = True := eq_true (by omega)
 go_enter Try.func63, Try.ntmps63
 go_wp2
 clear hmk zc
 rw [HS1.out]
 have O := Aside0.mk (blk_new w (.cells (encW ((List.replicate (n + 1) ⟨false, 0⟩).set s ⟨true, 0⟩)) 94))
 have HB := Aside0.mk (below_alloc (Below.refl w.heap.size w) (.cells (encW ((List.replicate (n + 1) ⟨false, 0⟩).set s ⟨true, 0⟩)) 94))
 have HL := Aside0.mk (show ((List.replicate (n + 1) (⟨false, 0⟩ : S94)).set s ⟨true, 0⟩).length = n + 1 by simp)
 generalize (List.replicate (n + 1) (⟨false, 0⟩ : S94)).set s ⟨true, 0⟩ = out at O HB HL H ⊢
 generalize w.alloc (.cells (encW out) 94) = w1 at O HB ⊢
 obtain ⟨bo, hbo⟩ : ∃ bo, w.heap.size = bo := ⟨_, rfl⟩
 have HBO := Aside0.mk (Nat.le_of_eq hbo)
 rw [hbo] at O ⊢
 clear hbo HS1
 go_loopg [9] (n + 2) (fun kq v9 w' => ∃ (i : Nat) (out : List S94), v9 = .int .i64 (i : Int) ∧ Aside0 (kq + i = n + 2) ∧ Aside0 (out.length = n + 1) ∧ Aside0 (lrounds es kq out = (r1, r2)) ∧ Aside0 (w'.heap[bo]? = some (.cells (encW out) 94 (0, 0))) ∧ Aside0 (Below w.heap.size w w'))
 case atStart => exact ⟨0, out, rfl, ⟨rfl⟩, HL, H, O, HB⟩
 case round =>
  clear HL H O HB
  obtain ⟨i, out, rfl, HK, HL, H, O, HB⟩ := hrel
  by_cases hlt : i < n + 2
  ·obtain ⟨k1, rfl⟩ : ∃ k1, gk = k1 + 1 := ⟨gk - 1, by have := HK.out; omega⟩
   obtain ⟨T, hT⟩ : ∃ T, lgo es out false = T := ⟨_, rfl⟩
   have H2 := Aside0.mk (show (if T.2 = true then lrounds es k1 T.1 else (T.1, true)) = (r1, r2) by have := H.out; simp only [lrounds, hT] at this; exact this)
   have HT := Aside0.mk hT
   clear H hT
   have hd1 : decide ((i : Int) ≤ (n : Int) + 1) = true := decide_eq_true (by omega)
   go_wp2
   clear hd1
   go_loopg [10, 11] es.length (fun kq v10 v11 w' => ∃ (j : Nat) (out : List S94) (m : Bool), v10 = .bool m ∧ v11 = .int .i64 (j : Int) ∧ Aside0 (kq + j = es.length) ∧ Aside0 (out.length = n + 1) ∧ Aside0 (lgo (es.drop j) out m = T) ∧ Aside0 (w'.heap[bo]? = some (.cells (encW out) 94 (0, 0))) ∧ Aside0 (Below w.heap.size w w'))
   case atStart => exact ⟨0, out, false, rfl, rfl, ⟨rfl⟩, HL, HT, O, HB⟩
   case round =>
    clear HL HT O HB
    obtain ⟨j, out, m, rfl, rfl, HJ, HL, HT, O, HB⟩ := hrel
    by_cases hjl : j < es.length
    ·have hdr := Aside0.mk (drop108 hjl)
     have HEJ := Aside0.mk (HE.out _ (mem_rd108 hjl))
     obtain ⟨ad, e1, q0, q1, q2⟩ := at_T108 HR.out (j : Int) (by omega) (by omega)
     subst e1
     simp only [Int.toNat_natCast] at q0 q1 q2
     obtain ⟨e, he⟩ : ∃ e, rd_T108 es j = e := ⟨_, rfl⟩
     rw [he] at hdr HEJ q0 q1 q2
     clear he
     have HT2 := HT.out
     rw [hdr.out] at HT2
     unfold lgo at HT2
     replace HT2 := Aside0.mk HT2
     have hE0 := HEJ.out.1
     have hE1 := HEJ.out.2.2.1
     have hE2 : (e.f0 < (n : Int) + 1) = True := eq_true (by have := HEJ.out.2.1; omega)
     have hE3 : (e.f1 < (n : Int) + 1) = True := eq_true (by have := HEJ.out.2.2.2; omega)
     have hE4 : (0 ≤ e.f0) = True := eq_true hE0
     have hE5 : (0 ≤ e.f1) = True := eq_true hE1
     have C0 := Aside0.mk (encW_get (l := out) (i := e.f0.toNat) (by have := HL.out; have := HEJ.out.2.1; omega))
     have C1 := Aside0.mk (encW_get (l := out) (i := e.f1.toNat) (by have := HL.out; have := HEJ.out.2.2.2; omega))
     have HLT := Aside0.mk (show e.f1.toNat < out.length by have := HL.out; have := HEJ.out.2.2.2; omega)
     have Q0 := Aside0.mk q0
     have Q1 := Aside0.mk q1
     have Q2 := Aside0.mk q2
     clear q0 q1 q2 hdr HT hE0 hE1
     go_upto_region 10 with fail
     refine start_ (n := 20) (S := fun w' => True) (ds := []) #[false, false, false, false, false, false, false, false, false, false, false, false, false, false, false, false, false, false, false, false] (by kernel_rfl) rfl rfl trivial (fun hHeld => ?_)
     refine with_tabW tenetref02_longest.tab10 tenetref02_longest.bits10 (fun HT_ HW_ => ?_)
     refine inv_at [0, 1, 2, 3, 4, 5, 6, 7, 8, 9, 10, 11, 12, 13, 14, 15, 16, 17, 18, 19] (fun a0_ b a w' => ∃ (ba : Nat) (bb : Nat) (m16_ : Value) (m17_ : Value), a = putSel a0_ b [(0, 33, Value.slice (some ⟨bo, 0, none⟩) (n + 1) (n + 1)), (1, 34, .slice (some ad) es.length c1), (2, 35, .int .i64 (j : Int)), (3, 36, .pointer (some (ad.add (j * 3)))), (4, 37, .pointer (some (ad.add (j * 3)))), (5, 38, .int .i64 e.f0), (6, 39, .pointer (some ⟨bo, (e.f0.toNat * 2), none⟩)), (7, 40, .agg #[.bool (out.getD e.f0.toNat z94).f0, .int .i64 (out.getD e.f0.toNat z94).f1]), (8, 41, Value.slice (some ⟨bo, 0, none⟩) (n + 1) (n + 1)), (9, 42, .slice (some ad) es.length c1), (10, 43, .int .i64 (j : Int)), (11, 44, .pointer (some (ad.add (j * 3)))), (12, 45, .pointer (some ⟨(ad.add (j * 3)).block, (ad.add (j * 3)).off + 1, none⟩)), (13, 46, .int .i64 e.f1), (14, 47, .pointer (some ⟨bo, (e.f1.toNat * 2), none⟩)), (15, 48, .agg #[.bool (out.getD e.f1.toNat z94).f0, .int .i64 (out.getD e.f1.toNat z94).f1]), (16, 12, m16_), (17, 13, m17_)] ∧ (Below w.heap.size w w') ∧ (w'.heap[bo]? = some (.cells (encW out) 94 (0, 0))) ∧ (b 16 = true → bo < ba ∧ ba < w'.heap.size) ∧ (b 17 = true → bo < bb ∧ bb < w'.heap.size) ∧ (b 16 = true → b 17 = true → ba ≠ bb) ∧ (b 16 = true → b 18 = false → w'.heap[ba]? = some (.cells #[.bool false, .int .i64 0] 94 (0, 0))) ∧ (b 18 = true → w'.heap[ba]? = some (.cells #[.bool (out.getD e.f0.toNat z94).f0, .int .i64 (out.getD e.f0.toNat z94).f1] 94 (0, 0))) ∧ (b 17 = true → b 19 = false → w'.heap[bb]? = some (.cells #[.bool false, .int .i64 0] 94 (0, 0))) ∧ (b 19 = true → w'.heap[bb]? = some (.cells #[.bool (out.getD e.f1.toNat z94).f0, .int .i64 (out.getD e.f1.toNat z94).f1] 94 (0, 0))) ∧ (b 16 = true → (m16_ : Value) = .pointer (some ⟨ba, 0, none⟩)) ∧ (b 17 = true → (m17_ : Value) = .pointer (some ⟨bb, 0, none⟩))) HT_.out HW_.out (by kernel_rfl) (by kernel_rfl) ?_ ?_ ?_
     ·exact ⟨0, 0, .bool false, .bool false, by simp only [putSel, Bool.false_eq_true, if_false], (below_drew HB.out), (blk_drew O.out), fun h_ => absurd h_ (by decide), fun h_ => absurd h_ (by decide), fun h_ => absurd h_ (by decide), fun h_ => absurd h_ (by decide), fun h_ => absurd h_ (by decide), fun h_ => absurd h_ (by decide), fun h_ => absurd h_ (by decide), fun h_ => absurd h_ (by decide), fun h_ => absurd h_ (by decide)⟩
     ·skip
      clear HB O
      refine steps_cons ?_ ?_
      ·rintro b a w' ⟨ba, bb, m16_, m17_, ha, Q_HB, Q_O, Q_LA, Q_LB, Q_NAB, Q_A0, Q_A1, Q_B0, Q_B1, Q_X16_, Q_X17_⟩ hb_ hon hoff
       refine ⟨_, rfl, fun K hK => ?_⟩
       have e8 : a.tmps[8]? = some (Value.slice (some ⟨bo, 0, none⟩) (n + 1) (n + 1)) := by rw [ha]; exact (putSel_off rfl).trans rfl
       replace ha := Aside0.mk ha
       have HB := Aside0.mk Q_HB
       have O := Aside0.mk Q_O
       refine value_ (w1 := w') (v := Value.slice (some ⟨bo, 0, none⟩) (n + 1) (n + 1)) (by rfl) rfl ?_ ?_
       ·go_simp
        (try simp only [i64_w])
        try rfl
       refine hK.out _ _ ⟨ba, bb, m16_, m17_, (by rw [ha.out]; exact putSel_upk 0 hb_ rfl rfl rfl), Q_HB, Q_O, Q_LA, Q_LB, Q_NAB, Q_A0, fun h0_ => absurd ((hoff 18 (by kernel_rfl)).symm.trans h0_) (by decide), Q_B0, fun h0_ => absurd ((hoff 19 (by kernel_rfl)).symm.trans h0_) (by decide), Q_X16_, Q_X17_⟩
      refine steps_cons ?_ ?_
      ·rintro b a w' ⟨ba, bb, m16_, m17_, ha, Q_HB, Q_O, Q_LA, Q_LB, Q_NAB, Q_A0, Q_A1, Q_B0, Q_B1, Q_X16_, Q_X17_⟩ hb_ hon hoff
       refine ⟨_, rfl, fun K hK => ?_⟩
       have e1 : a.tmps[1]? = some (.slice (some ad) es.length c1) := by rw [ha]; exact (putSel_off rfl).trans rfl
       replace ha := Aside0.mk ha
       have HB := Aside0.mk Q_HB
       have O := Aside0.mk Q_O
       refine value_ (w1 := w') (v := .slice (some ad) es.length c1) (by rfl) rfl ?_ ?_
       ·go_simp
        (try simp only [i64_w])
        try rfl
       refine hK.out _ _ ⟨ba, bb, m16_, m17_, (by rw [ha.out]; exact putSel_upk 1 hb_ rfl rfl rfl), Q_HB, Q_O, Q_LA, Q_LB, Q_NAB, Q_A0, fun h0_ => absurd ((hoff 18 (by kernel_rfl)).symm.trans h0_) (by decide), Q_B0, fun h0_ => absurd ((hoff 19 (by kernel_rfl)).symm.trans h0_) (by decide), Q_X16_, Q_X17_⟩
      refine steps_cons ?_ ?_
      ·rintro b a w' ⟨ba, bb, m16_, m17_, ha, Q_HB, Q_O, Q_LA, Q_LB, Q_NAB, Q_A0, Q_A1, Q_B0, Q_B1, Q_X16_, Q_X17_⟩ hb_ hon hoff
       refine ⟨_, rfl, fun K hK => ?_⟩
       have e11 : a.tmps[11]? = some (.int .i64 (j : Int)) := by rw [ha]; exact (putSel_off rfl).trans rfl
       replace ha := Aside0.mk ha
       have HB := Aside0.mk Q_HB
       have O := Aside0.mk Q_O
       refine value_ (w1 := w') (v := .int .i64 (j : Int)) (by rfl) rfl ?_ ?_
       ·go_simp
        (try simp only [i64_w])
        try rfl
       refine hK.out _ _ ⟨ba, bb, m16_, m17_, (by rw [ha.out]; exact putSel_upk 2 hb_ rfl rfl rfl), Q_HB, Q_O, Q_LA, Q_LB, Q_NAB, Q_A0, fun h0_ => absurd ((hoff 18 (by kernel_rfl)).symm.trans h0_) (by decide), Q_B0, fun h0_ => absurd ((hoff 19 (by kernel_rfl)).symm.trans h0_) (by decide), Q_X16_, Q_X17_⟩
      refine steps_cons ?_ ?_
      ·rintro b a w' ⟨ba, bb, m16_, m17_, ha, Q_HB, Q_O, Q_LA, Q_LB, Q_NAB, Q_A0, Q_A1, Q_B0, Q_B1, Q_X16_, Q_X17_⟩ hb_ hon hoff
       refine ⟨_, rfl, fun K hK => ?_⟩
       have e34 : a.tmps[34]? = some (.slice (some ad) es.length c1) := by rw [ha]; exact putSel_on (e := (1, 34, .slice (some ad) es.length c1)) 1 rfl rfl (hon 1 (by kernel_rfl)) rfl
       have e35 : a.tmps[35]? = some (.int .i64 (j : Int)) := by rw [ha]; exact putSel_on (e := (2, 35, .int .i64 (j : Int))) 2 rfl rfl (hon 2 (by kernel_rfl)) rfl
       replace ha := Aside0.mk ha
       have HB := Aside0.mk Q_HB
       have O := Aside0.mk Q_O
       refine value_ (w1 := w') (v := .pointer (some (ad.add (j * 3)))) (by rfl) rfl ?_ ?_
       ·go_simp
        (try simp only [i64_w])
        try rfl
       refine hK.out _ _ ⟨ba, bb, m16_, m17_, (by rw [ha.out]; exact putSel_upk 3 hb_ rfl rfl rfl), Q_HB, Q_O, Q_LA, Q_LB, Q_NAB, Q_A0, fun h0_ => absurd ((hoff 18 (by kernel_rfl)).symm.trans h0_) (by decide), Q_B0, fun h0_ => absurd ((hoff 19 (by kernel_rfl)).symm.trans h0_) (by decide), Q_X16_, Q_X17_⟩
      refine steps_cons ?_ ?_
      ·rintro b a w' ⟨ba, bb, m16_, m17_, ha, Q_HB, Q_O, Q_LA, Q_LB, Q_NAB, Q_A0, Q_A1, Q_B0, Q_B1, Q_X16_, Q_X17_⟩ hb_ hon hoff
       refine ⟨_, rfl, fun K hK => ?_⟩
       have e36 : a.tmps[36]? = some (.pointer (some (ad.add (j * 3)))) := by rw [ha]; exact putSel_on (e := (3, 36, .pointer (some (ad.add (j * 3))))) 3 rfl rfl (hon 3 (by kernel_rfl)) rfl
       replace ha := Aside0.mk ha
       have HB := Aside0.mk Q_HB
       have O := Aside0.mk Q_O
       refine value_ (w1 := w') (v := .pointer (some (ad.add (j * 3)))) (by rfl) rfl ?_ ?_
       ·go_simp
        (try simp only [i64_w])
        try rfl
       refine hK.out _ _ ⟨ba, bb, m16_, m17_, (by rw [ha.out]; exact putSel_upk 4 hb_ rfl rfl rfl), Q_HB, Q_O, Q_LA, Q_LB, Q_NAB, Q_A0, fun h0_ => absurd ((hoff 18 (by kernel_rfl)).symm.trans h0_) (by decide), Q_B0, fun h0_ => absurd ((hoff 19 (by kernel_rfl)).symm.trans h0_) (by decide), Q_X16_, Q_X17_⟩
      refine steps_cons ?_ ?_
      ·rintro b a w' ⟨ba, bb, m16_, m17_, ha, Q_HB, Q_O, Q_LA, Q_LB, Q_NAB, Q_A0, Q_A1, Q_B0, Q_B1, Q_X16_, Q_X17_⟩ hb_ hon hoff
       refine ⟨_, rfl, fun K hK => ?_⟩
       have e37 : a.tmps[37]? = some (.pointer (some (ad.add (j * 3)))) := by rw [ha]; exact putSel_on (e := (4, 37, .pointer (some (ad.add (j * 3))))) 4 rfl rfl (hon 4 (by kernel_rfl)) rfl
       replace ha := Aside0.mk ha
       have HB := Aside0.mk Q_HB
       have O := Aside0.mk Q_O
       have z_ : w'.cell? (ad.add (j * 3)) = some (.int .i64 e.f0) := (HB.out.cell (World.block_lt_of_cell? w _ Q0.out)).trans Q0.out
       refine value_ (w1 := w') (v := .int .i64 e.f0) (by rfl) rfl ?_ ?_
       ·go_simp
        (try simp only [i64_w])
        try rfl
       refine hK.out _ _ ⟨ba, bb, m16_, m17_, (by rw [ha.out]; exact putSel_upk 5 hb_ rfl rfl rfl), Q_HB, Q_O, Q_LA, Q_LB, Q_NAB, Q_A0, fun h0_ => absurd ((hoff 18 (by kernel_rfl)).symm.trans h0_) (by decide), Q_B0, fun h0_ => absurd ((hoff 19 (by kernel_rfl)).symm.trans h0_) (by decide), Q_X16_, Q_X17_⟩
      refine steps_cons ?_ ?_
      ·rintro b a w' ⟨ba, bb, m16_, m17_, ha, Q_HB, Q_O, Q_LA, Q_LB, Q_NAB, Q_A0, Q_A1, Q_B0, Q_B1, Q_X16_, Q_X17_⟩ hb_ hon hoff
       refine ⟨_, rfl, fun K hK => ?_⟩
       have e33 : a.tmps[33]? = some (Value.slice (some ⟨bo, 0, none⟩) (n + 1) (n + 1)) := by rw [ha]; exact putSel_on (e := (0, 33, Value.slice (some ⟨bo, 0, none⟩) (n + 1) (n + 1))) 0 rfl rfl (hon 0 (by kernel_rfl)) rfl
       have e38 : a.tmps[38]? = some (.int .i64 e.f0) := by rw [ha]; exact putSel_on (e := (5, 38, .int .i64 e.f0)) 5 rfl rfl (hon 5 (by kernel_rfl)) rfl
       replace ha := Aside0.mk ha
       have HB := Aside0.mk Q_HB
       have O := Aside0.mk Q_O
       refine value_ (w1 := w') (v := .pointer (some ⟨bo, (e.f0.toNat * 2), none⟩)) (by rfl) rfl ?_ ?_
       ·go_simp
        (try simp only [i64_w])
        try rfl
       refine hK.out _ _ ⟨ba, bb, m16_, m17_, (by rw [ha.out]; exact putSel_upk 6 hb_ rfl rfl rfl), Q_HB, Q_O, Q_LA, Q_LB, Q_NAB, Q_A0, fun h0_ => absurd ((hoff 18 (by kernel_rfl)).symm.trans h0_) (by decide), Q_B0, fun h0_ => absurd ((hoff 19 (by kernel_rfl)).symm.trans h0_) (by decide), Q_X16_, Q_X17_⟩
      refine steps_cons ?_ ?_
      ·rintro b a w' ⟨ba, bb, m16_, m17_, ha, Q_HB, Q_O, Q_LA, Q_LB, Q_NAB, Q_A0, Q_A1, Q_B0, Q_B1, Q_X16_, Q_X17_⟩ hb_ hon hoff
       refine ⟨_, rfl, fun K hK => ?_⟩
       have e39 : a.tmps[39]? = some (.pointer (some ⟨bo, (e.f0.toNat * 2), none⟩)) := by rw [ha]; exact putSel_on (e := (6, 39, .pointer (some ⟨bo, (e.f0.toNat * 2), none⟩))) 6 rfl rfl (hon 6 (by kernel_rfl)) rfl
       replace ha := Aside0.mk ha
       have HB := Aside0.mk Q_HB
       have O := Aside0.mk Q_O
       have z0_ := (blk_cell O.out (e.f0.toNat * 2)).trans C0.out.1
       have z1_ := (blk_cell O.out (e.f0.toNat * 2 + 1)).trans C0.out.2
       refine value_ (w1 := w') (v := .agg #[.bool (out.getD e.f0.toNat z94).f0, .int .i64 (out.getD e.f0.toNat z94).f1]) (by rfl) rfl ?_ ?_
       ·go_simp
        (try simp only [i64_w])
        try rfl
       refine hK.out _ _ ⟨ba, bb, m16_, m17_, (by rw [ha.out]; exact putSel_upk 7 hb_ rfl rfl rfl), Q_HB, Q_O, Q_LA, Q_LB, Q_NAB, Q_A0, fun h0_ => absurd ((hoff 18 (by kernel_rfl)).symm.trans h0_) (by decide), Q_B0, fun h0_ => absurd ((hoff 19 (by kernel_rfl)).symm.trans h0_) (by decide), Q_X16_, Q_X17_⟩
      refine steps_cons ?_ ?_
      ·rintro b a w' ⟨ba, bb, m16_, m17_, ha, Q_HB, Q_O, Q_LA, Q_LB, Q_NAB, Q_A0, Q_A1, Q_B0, Q_B1, Q_X16_, Q_X17_⟩ hb_ hon hoff
       refine ⟨_, rfl, fun K hK => ?_⟩
       have e8 : a.tmps[8]? = some (Value.slice (some ⟨bo, 0, none⟩) (n + 1) (n + 1)) := by rw [ha]; exact (putSel_off rfl).trans rfl
       replace ha := Aside0.mk ha
       have HB := Aside0.mk Q_HB
       have O := Aside0.mk Q_O
       refine value_ (w1 := w') (v := Value.slice (some ⟨bo, 0, none⟩) (n + 1) (n + 1)) (by rfl) rfl ?_ ?_
       ·go_simp
        (try simp only [i64_w])
        try rfl
       refine hK.out _ _ ⟨ba, bb, m16_, m17_, (by rw [ha.out]; exact putSel_upk 8 hb_ rfl rfl rfl), Q_HB, Q_O, Q_LA, Q_LB, Q_NAB, Q_A0, Q_A1, Q_B0, fun h0_ => absurd ((hoff 19 (by kernel_rfl)).symm.trans h0_) (by decide), Q_X16_, Q_X17_⟩
      refine steps_cons ?_ ?_
      ·rintro b a w' ⟨ba, bb, m16_, m17_, ha, Q_HB, Q_O, Q_LA, Q_LB, Q_NAB, Q_A0, Q_A1, Q_B0, Q_B1, Q_X16_, Q_X17_⟩ hb_ hon hoff
       refine ⟨_, rfl, fun K hK => ?_⟩
       have e1 : a.tmps[1]? = some (.slice (some ad) es.length c1) := by rw [ha]; exact (putSel_off rfl).trans rfl
       replace ha := Aside0.mk ha
       have HB := Aside0.mk Q_HB
       have O := Aside0.mk Q_O
       refine value_ (w1 := w') (v := .slice (some ad) es.length c1) (by rfl) rfl ?_ ?_
       ·go_simp
        (try simp only [i64_w])
        try rfl
       refine hK.out _ _ ⟨ba, bb, m16_, m17_, (by rw [ha.out]; exact putSel_upk 9 hb_ rfl rfl rfl), Q_HB, Q_O, Q_LA, Q_LB, Q_NAB, Q_A0, Q_A1, Q_B0, fun h0_ => absurd ((hoff 19 (by kernel_rfl)).symm.trans h0_) (by decide), Q_X16_, Q_X17_⟩
      refine steps_cons ?_ ?_
      ·rintro b a w' ⟨ba, bb, m16_, m17_, ha, Q_HB, Q_O, Q_LA, Q_LB, Q_NAB, Q_A0, Q_A1, Q_B0, Q_B1, Q_X16_, Q_X17_⟩ hb_ hon hoff
       refine ⟨_, rfl, fun K hK => ?_⟩
       have e11 : a.tmps[11]? = some (.int .i64 (j : Int)) := by rw [ha]; exact (putSel_off rfl).trans rfl
       replace ha := Aside0.mk ha
       have HB := Aside0.mk Q_HB
       have O := Aside0.mk Q_O
       refine value_ (w1 := w') (v := .int .i64 (j : Int)) (by rfl) rfl ?_ ?_
       ·go_simp
        (try simp only [i64_w])
        try rfl
       refine hK.out _ _ ⟨ba, bb, m16_, m17_, (by rw [ha.out]; exact putSel_upk 10 hb_ rfl rfl rfl), Q_HB, Q_O, Q_LA, Q_LB, Q_NAB, Q_A0, Q_A1, Q_B0, fun h0_ => absurd ((hoff 19 (by kernel_rfl)).symm.trans h0_) (by decide), Q_X16_, Q_X17_⟩
      refine steps_cons ?_ ?_
      ·rintro b a w' ⟨ba, bb, m16_, m17_, ha, Q_HB, Q_O, Q_LA, Q_LB, Q_NAB, Q_A0, Q_A1, Q_B0, Q_B1, Q_X16_, Q_X17_⟩ hb_ hon hoff
       refine ⟨_, rfl, fun K hK => ?_⟩
       have e42 : a.tmps[42]? = some (.slice (some ad) es.length c1) := by rw [ha]; exact putSel_on (e := (9, 42, .slice (some ad) es.length c1)) 9 rfl rfl (hon 9 (by kernel_rfl)) rfl
       have e43 : a.tmps[43]? = some (.int .i64 (j : Int)) := by rw [ha]; exact putSel_on (e := (10, 43, .int .i64 (j : Int))) 10 rfl rfl (hon 10 (by kernel_rfl)) rfl
       replace ha := Aside0.mk ha
       have HB := Aside0.mk Q_HB
       have O := Aside0.mk Q_O
       refine value_ (w1 := w') (v := .pointer (some (ad.add (j * 3)))) (by rfl) rfl ?_ ?_
       ·go_simp
        (try simp only [i64_w])
        try rfl
       refine hK.out _ _ ⟨ba, bb, m16_, m17_, (by rw [ha.out]; exact putSel_upk 11 hb_ rfl rfl rfl), Q_HB, Q_O, Q_LA, Q_LB, Q_NAB, Q_A0, Q_A1, Q_B0, fun h0_ => absurd ((hoff 19 (by kernel_rfl)).symm.trans h0_) (by decide), Q_X16_, Q_X17_⟩
      refine steps_cons ?_ ?_
      ·rintro b a w' ⟨ba, bb, m16_, m17_, ha, Q_HB, Q_O, Q_LA, Q_LB, Q_NAB, Q_A0, Q_A1, Q_B0, Q_B1, Q_X16_, Q_X17_⟩ hb_ hon hoff
       refine ⟨_, rfl, fun K hK => ?_⟩
       have e44 : a.tmps[44]? = some (.pointer (some (ad.add (j * 3)))) := by rw [ha]; exact putSel_on (e := (11, 44, .pointer (some (ad.add (j * 3))))) 11 rfl rfl (hon 11 (by kernel_rfl)) rfl
       replace ha := Aside0.mk ha
       have HB := Aside0.mk Q_HB
       have O := Aside0.mk Q_O
       refine value_ (w1 := w') (v := .pointer (some ⟨(ad.add (j * 3)).block, (ad.add (j * 3)).off + 1, none⟩)) (by rfl) rfl ?_ ?_
       ·go_simp
        (try simp only [i64_w])
        try rfl
       refine hK.out _ _ ⟨ba, bb, m16_, m17_, (by rw [ha.out]; exact putSel_upk 12 hb_ rfl rfl rfl), Q_HB, Q_O, Q_LA, Q_LB, Q_NAB, Q_A0, Q_A1, Q_B0, fun h0_ => absurd ((hoff 19 (by kernel_rfl)).symm.trans h0_) (by decide), Q_X16_, Q_X17_⟩
      refine steps_cons ?_ ?_
      ·rintro b a w' ⟨ba, bb, m16_, m17_, ha, Q_HB, Q_O, Q_LA, Q_LB, Q_NAB, Q_A0, Q_A1, Q_B0, Q_B1, Q_X16_, Q_X17_⟩ hb_ hon hoff
       refine ⟨_, rfl, fun K hK => ?_⟩
       have e45 : a.tmps[45]? = some (.pointer (some ⟨(ad.add (j * 3)).block, (ad.add (j * 3)).off + 1, none⟩)) := by rw [ha]; exact putSel_on (e := (12, 45, .pointer (some ⟨(ad.add (j * 3)).block, (ad.add (j * 3)).off + 1, none⟩))) 12 rfl rfl (hon 12 (by kernel_rfl)) rfl
       replace ha := Aside0.mk ha
       have HB := Aside0.mk Q_HB
       have O := Aside0.mk Q_O
       have z_ : w'.cell? ⟨(ad.add (j * 3)).block, (ad.add (j * 3)).off + 1, none⟩ = some (.int .i64 e.f1) := (HB.out.cell (World.block_lt_of_cell? w _ Q1.out)).trans Q1.out
       refine value_ (w1 := w') (v := .int .i64 e.f1) (by rfl) rfl ?_ ?_
       ·go_simp
        (try simp only [i64_w])
        try rfl
       refine hK.out _ _ ⟨ba, bb, m16_, m17_, (by rw [ha.out]; exact putSel_upk 13 hb_ rfl rfl rfl), Q_HB, Q_O, Q_LA, Q_LB, Q_NAB, Q_A0, Q_A1, Q_B0, fun h0_ => absurd ((hoff 19 (by kernel_rfl)).symm.trans h0_) (by decide), Q_X16_, Q_X17_⟩
      refine steps_cons ?_ ?_
      ·rintro b a w' ⟨ba, bb, m16_, m17_, ha, Q_HB, Q_O, Q_LA, Q_LB, Q_NAB, Q_A0, Q_A1, Q_B0, Q_B1, Q_X16_, Q_X17_⟩ hb_ hon hoff
       refine ⟨_, rfl, fun K hK => ?_⟩
       have e41 : a.tmps[41]? = some (Value.slice (some ⟨bo, 0, none⟩) (n + 1) (n + 1)) := by rw [ha]; exact putSel_on (e := (8, 41, Value.slice (some ⟨bo, 0, none⟩) (n + 1) (n + 1))) 8 rfl rfl (hon 8 (by kernel_rfl)) rfl
       have e46 : a.tmps[46]? = some (.int .i64 e.f1) := by rw [ha]; exact putSel_on (e := (13, 46, .int .i64 e.f1)) 13 rfl rfl (hon 13 (by kernel_rfl)) rfl
       replace ha := Aside0.mk ha
       have HB := Aside0.mk Q_HB
       have O := Aside0.mk Q_O
       refine value_ (w1 := w') (v := .pointer (some ⟨bo, (e.f1.toNat * 2), none⟩)) (by rfl) rfl ?_ ?_
       ·go_simp
        (try simp only [i64_w])
        try rfl
       refine hK.out _ _ ⟨ba, bb, m16_, m17_, (by rw [ha.out]; exact putSel_upk 14 hb_ rfl rfl rfl), Q_HB, Q_O, Q_LA, Q_LB, Q_NAB, Q_A0, Q_A1, Q_B0, fun h0_ => absurd ((hoff 19 (by kernel_rfl)).symm.trans h0_) (by decide), Q_X16_, Q_X17_⟩
      refine steps_cons ?_ ?_
      ·rintro b a w' ⟨ba, bb, m16_, m17_, ha, Q_HB, Q_O, Q_LA, Q_LB, Q_NAB, Q_A0, Q_A1, Q_B0, Q_B1, Q_X16_, Q_X17_⟩ hb_ hon hoff
       refine ⟨_, rfl, fun K hK => ?_⟩
       have e47 : a.tmps[47]? = some (.pointer (some ⟨bo, (e.f1.toNat * 2), none⟩)) := by rw [ha]; exact putSel_on (e := (14, 47, .pointer (some ⟨bo, (e.f1.toNat * 2), none⟩))) 14 rfl rfl (hon 14 (by kernel_rfl)) rfl
       replace ha := Aside0.mk ha
       have HB := Aside0.mk Q_HB
       have O := Aside0.mk Q_O
       have z0_ := (blk_cell O.out (e.f1.toNat * 2)).trans C1.out.1
       have z1_ := (blk_cell O.out (e.f1.toNat * 2 + 1)).trans C1.out.2
       refine value_ (w1 := w') (v := .agg #[.bool (out.getD e.f1.toNat z94).f0, .int .i64 (out.getD e.f1.toNat z94).f1]) (by rfl) rfl ?_ ?_
       ·go_simp
        (try simp only [i64_w])
        try rfl
       refine hK.out _ _ ⟨ba, bb, m16_, m17_, (by rw [ha.out]; exact putSel_upk 15 hb_ rfl rfl rfl), Q_HB, Q_O, Q_LA, Q_LB, Q_NAB, Q_A0, Q_A1, Q_B0, fun h0_ => absurd ((hoff 19 (by kernel_rfl)).symm.trans h0_) (by decide), Q_X16_, Q_X17_⟩
      refine steps_cons ?_ ?_
      ·rintro b a w' ⟨ba, bb, m16_, m17_, ha, Q_HB, Q_O, Q_LA, Q_LB, Q_NAB, Q_A0, Q_A1, Q_B0, Q_B1, Q_X16_, Q_X17_⟩ hb_ hon hoff
       refine ⟨_, rfl, fun K hK => ?_⟩
       replace ha := Aside0.mk ha
       have HB := Aside0.mk Q_HB
       have O := Aside0.mk Q_O
       refine value_ (w1 := w'.alloc (.cells #[.bool false, .int .i64 0] 94)) (v := .pointer (some ⟨w'.heap.size, 0, none⟩)) (by rfl) rfl ?_ ?_
       ·go_simp
        try rfl
       refine hK.out _ _ ⟨w'.heap.size, bb, (.pointer (some ⟨w'.heap.size, 0, none⟩)), m17_, (by rw [ha.out]; exact putSel_upk 16 hb_ rfl rfl rfl), (below_alloc HB.out _), (blk_alloc O.out _), fun _ => ⟨blk_lt O.out, by rw [World.size_alloc]; exact Nat.lt_succ_self _⟩, fun h0_ => ⟨(Q_LB h0_).1, by rw [World.size_alloc]; exact Nat.lt_succ_of_lt (Q_LB h0_).2⟩, (fun _ h1_ => Nat.ne_of_gt (Q_LB h1_).2), fun _ _ => (blk_new _ _), fun h0_ => absurd ((hoff 18 (by kernel_rfl)).symm.trans h0_) (by decide), fun h0_ h1_ => (blk_alloc (Q_B0 h0_ h1_) _), fun h0_ => absurd ((hoff 19 (by kernel_rfl)).symm.trans h0_) (by decide), fun _ => rfl, Q_X17_⟩
      refine steps_cons ?_ ?_
      ·rintro b a w' ⟨ba, bb, m16_, m17_, ha, Q_HB, Q_O, Q_LA, Q_LB, Q_NAB, Q_A0, Q_A1, Q_B0, Q_B1, Q_X16_, Q_X17_⟩ hb_ hon hoff
       refine ⟨_, rfl, fun K hK => ?_⟩
       replace ha := Aside0.mk ha
       have HB := Aside0.mk Q_HB
       have O := Aside0.mk Q_O
       refine value_ (w1 := w'.alloc (.cells #[.bool false, .int .i64 0] 94)) (v := .pointer (some ⟨w'.heap.size, 0, none⟩)) (by rfl) rfl ?_ ?_
       ·go_simp
        try rfl
       refine hK.out _ _ ⟨ba, w'.heap.size, m16_, (.pointer (some ⟨w'.heap.size, 0, none⟩)), (by rw [ha.out]; exact putSel_upk 17 hb_ rfl rfl rfl), (below_alloc HB.out _), (blk_alloc O.out _), fun h0_ => ⟨(Q_LA h0_).1, by rw [World.size_alloc]; exact Nat.lt_succ_of_lt (Q_LA h0_).2⟩, fun _ => ⟨blk_lt O.out, by rw [World.size_alloc]; exact Nat.lt_succ_self _⟩, (fun h0_ _ => Nat.ne_of_lt (Q_LA h0_).2), fun h0_ h1_ => (blk_alloc (Q_A0 h0_ h1_) _), fun h0_ => absurd ((hoff 18 (by kernel_rfl)).symm.trans h0_) (by decide), fun _ _ => (blk_new _ _), fun h0_ => absurd ((hoff 19 (by kernel_rfl)).symm.trans h0_) (by decide), Q_X16_, fun _ => rfl⟩
      refine steps_cons ?_ ?_
      ·rintro b a w' ⟨ba, bb, m16_, m17_, ha, Q_HB, Q_O, Q_LA, Q_LB, Q_NAB, Q_A0, Q_A1, Q_B0, Q_B1, Q_X16_, Q_X17_⟩ hb_ hon hoff
       refine ⟨_, rfl, fun K hK => ?_⟩
       have e12 : a.tmps[12]? = some (m16_) := by rw [ha]; exact putSel_on (e := (16, 12, m16_)) 16 rfl rfl (hon 16 (by kernel_rfl)) rfl
       rw [Q_X16_ (hon 16 (by kernel_rfl))] at e12
       have e40 : a.tmps[40]? = some (.agg #[.bool (out.getD e.f0.toNat z94).f0, .int .i64 (out.getD e.f0.toNat z94).f1]) := by rw [ha]; exact putSel_on (e := (7, 40, .agg #[.bool (out.getD e.f0.toNat z94).f0, .int .i64 (out.getD e.f0.toNat z94).f1])) 7 rfl rfl (hon 7 (by kernel_rfl)) rfl
       replace ha := Aside0.mk ha
       have HB := Aside0.mk Q_HB
       have O := Aside0.mk Q_O
       have LA := Aside0.mk (Q_LA (hon 16 (by kernel_rfl)))
       have LB := Aside0.mk (Q_LB (hon 17 (by kernel_rfl)))
       have NAB := Aside0.mk (Q_NAB (hon 16 (by kernel_rfl)) (hon 17 (by kernel_rfl)))
       have A0 := Aside0.mk (Q_A0 (hon 16 (by kernel_rfl)) hb_)
       have B0 := Aside0.mk (Q_B0 (hon 17 (by kernel_rfl)) (hoff 19 (by kernel_rfl)))
       have zc0 := (blk_cell A0.out 0).trans rfl
       have zc1 := (blk_cell A0.out 1).trans rfl
       have zf0 := blk_frozen A0.out 0
       have zf1 := blk_frozen A0.out 1
       refine skip_ (w1 := ?_) (by rfl) rfl ?_ ?_
       rotate_left
       ·go_simp
        rfl
       refine hK.out _ _ ⟨ba, bb, m16_, m17_, (by rw [ha.out]; exact putSel_none (v := undef) rfl), (below_set (below_set HB.out (Nat.le_trans HBO.out (Nat.le_of_lt LA.out.1))) (Nat.le_trans HBO.out (Nat.le_of_lt LA.out.1))), (blk_far (blk_far O.out (Nat.ne_of_lt LA.out.1) _) (Nat.ne_of_lt LA.out.1) _), fun _ => ⟨LA.out.1, by rw [World.size_setCell, World.size_setCell]; exact LA.out.2⟩, fun _ => ⟨LB.out.1, by rw [World.size_setCell, World.size_setCell]; exact LB.out.2⟩, fun _ _ => NAB.out, fun _ h1_ => absurd ((up_self b 18).symm.trans h1_) (by decide), fun _ => (blk_put (blk_put A0.out 0 _ rfl) 1 _ rfl), fun _ _ => (blk_far (blk_far B0.out (Ne.symm NAB.out) _) (Ne.symm NAB.out) _), fun h0_ => absurd ((hoff 19 (by kernel_rfl)).symm.trans h0_) (by decide), Q_X16_, Q_X17_⟩
      refine steps_cons ?_ ?_
      ·rintro b a w' ⟨ba, bb, m16_, m17_, ha, Q_HB, Q_O, Q_LA, Q_LB, Q_NAB, Q_A0, Q_A1, Q_B0, Q_B1, Q_X16_, Q_X17_⟩ hb_ hon hoff
       refine ⟨_, rfl, fun K hK => ?_⟩
       have e13 : a.tmps[13]? = some (m17_) := by rw [ha]; exact putSel_on (e := (17, 13, m17_)) 17 rfl rfl (hon 17 (by kernel_rfl)) rfl
       rw [Q_X17_ (hon 17 (by kernel_rfl))] at e13
       have e48 : a.tmps[48]? = some (.agg #[.bool (out.getD e.f1.toNat z94).f0, .int .i64 (out.getD e.f1.toNat z94).f1]) := by rw [ha]; exact putSel_on (e := (15, 48, .agg #[.bool (out.getD e.f1.toNat z94).f0, .int .i64 (out.getD e.f1.toNat z94).f1])) 15 rfl rfl (hon 15 (by kernel_rfl)) rfl
       replace ha := Aside0.mk ha
       have HB := Aside0.mk Q_HB
       have O := Aside0.mk Q_O
       have LA := Aside0.mk (Q_LA (hon 16 (by kernel_rfl)))
       have LB := Aside0.mk (Q_LB (hon 17 (by kernel_rfl)))
       have NAB := Aside0.mk (Q_NAB (hon 16 (by kernel_rfl)) (hon 17 (by kernel_rfl)))
       have A1 := Aside0.mk (Q_A1 (hon 18 (by kernel_rfl)))
       have B0 := Aside0.mk (Q_B0 (hon 17 (by kernel_rfl)) hb_)
       have zc0 := (blk_cell B0.out 0).trans rfl
       have zc1 := (blk_cell B0.out 1).trans rfl
       have zf0 := blk_frozen B0.out 0
       have zf1 := blk_frozen B0.out 1
       refine skip_ (w1 := ?_) (by rfl) rfl ?_ ?_
       rotate_left
       ·go_simp
        rfl
       refine hK.out _ _ ⟨ba, bb, m16_, m17_, (by rw [ha.out]; exact putSel_none (v := undef) rfl), (below_set (below_set HB.out (Nat.le_trans HBO.out (Nat.le_of_lt LB.out.1))) (Nat.le_trans HBO.out (Nat.le_of_lt LB.out.1))), (blk_far (blk_far O.out (Nat.ne_of_lt LB.out.1) _) (Nat.ne_of_lt LB.out.1) _), fun _ => ⟨LA.out.1, by rw [World.size_setCell, World.size_setCell]; exact LA.out.2⟩, fun _ => ⟨LB.out.1, by rw [World.size_setCell, World.size_setCell]; exact LB.out.2⟩, fun _ _ => NAB.out, fun _ h1_ => absurd ((hon 18 (by kernel_rfl)).symm.trans h1_) (by decide), fun _ => (blk_far (blk_far A1.out NAB.out _) NAB.out _), fun _ h1_ => absurd ((up_self b 19).symm.trans h1_) (by decide), fun _ => (blk_put (blk_put B0.out 0 _ rfl) 1 _ rfl), Q_X16_, Q_X17_⟩
      exact steps_nil
     rintro b a w5 hall ⟨ba, bb, m16_, m17_, ha, Q_HB, Q_O, Q_LA, Q_LB, Q_NAB, Q_A0, Q_A1, Q_B0, Q_B1, Q_X16_, Q_X17_⟩
     clear HB O
     have hb0_ := hall 0 (by kernel_rfl)
     have hb1_ := hall 1 (by kernel_rfl)
     have hb2_ := hall 2 (by kernel_rfl)
     have hb3_ := hall 3 (by kernel_rfl)
     have hb4_ := hall 4 (by kernel_rfl)
     have hb5_ := hall 5 (by kernel_rfl)
     have hb6_ := hall 6 (by kernel_rfl)
     have hb7_ := hall 7 (by kernel_rfl)
     have hb8_ := hall 8 (by kernel_rfl)
     have hb9_ := hall 9 (by kernel_rfl)
     have hb10_ := hall 10 (by kernel_rfl)
     have hb11_ := hall 11 (by kernel_rfl)
     have hb12_ := hall 12 (by kernel_rfl)
     have hb13_ := hall 13 (by kernel_rfl)
     have hb14_ := hall 14 (by kernel_rfl)
     have hb15_ := hall 15 (by kernel_rfl)
     have hb16_ := hall 16 (by kernel_rfl)
     have hb17_ := hall 17 (by kernel_rfl)
     have hb18_ := hall 18 (by kernel_rfl)
     have hb19_ := hall 19 (by kernel_rfl)
     subst ha
     obtain rfl := Q_X16_ hb16_
     obtain rfl := Q_X17_ hb17_
     simp only [putSel, hb0_, hb1_, hb2_, hb3_, hb4_, hb5_, hb6_, hb7_, hb8_, hb9_, hb10_, hb11_, hb12_, hb13_, hb14_, hb15_, hb16_, hb17_, hb18_, hb19_, if_true, Act.put, List.setIfInBounds_toArray, List.set_cons_zero, List.set_cons_succ]
     have HB := Aside0.mk Q_HB
     clear Q_HB
     have O := Aside0.mk Q_O
     clear Q_O
     have LA := Aside0.mk (Q_LA hb16_)
     clear Q_LA
     have LB := Aside0.mk (Q_LB hb17_)
     clear Q_LB
     have NAB := Aside0.mk (Q_NAB hb16_ hb17_)
     clear Q_NAB
     clear Q_A0
     have A1 := Aside0.mk (Q_A1 hb18_)
     clear Q_A1
     clear Q_B0
     have B1 := Aside0.mk (Q_B1 hb19_)
     clear Q_B1
     clear hall hb0_ hb1_ hb2_ hb3_ hb4_ hb5_ hb6_ hb7_ hb8_ hb9_ hb10_ hb11_ hb12_ hb13_ hb14_ hb15_ hb16_ hb17_ hb18_ hb19_
     clear HT_ HW_ hHeld b Q_X16_ Q_X17_
     clear C0 Q0
     go_upto_region 11 with fail
     generalize (out.getD e.f0.toNat z94).f0 = ai at HT2 A1 ⊢
     generalize (out.getD e.f0.toNat z94).f1 = ad1 at HT2 A1 ⊢
     generalize (out.getD e.f1.toNat z94).f0 = bi at HT2 B1 C1 ⊢
     generalize (out.getD e.f1.toNat z94).f1 = bd1 at HT2 B1 C1 ⊢
     go_cut [68] from 27 to 84 (fun v68 wx => (∃ cc : Bool, v68 = .bool cc ∧ Aside0 (cc = true ↔ (ai = true ∧ (bi = false ∨ bd1 < wrap64 (ad1 + e.f2))))) ∧ Aside0 (Below w.heap.size w wx) ∧ Aside0 (wx.heap[bo]? = some (.cells (encW out) 94 (0, 0))) ∧ Aside0 (wx.heap[ba]? = some (.cells #[.bool ai, .int .i64 ad1] 94 (0, 0))))
     case first =>
      have q2 := (HB.out.cell (World.block_lt_of_cell? w _ Q2.out)).trans Q2.out
      cases ai with
      | false =>
       have z0 := (blk_cell A1.out 0).trans rfl
       have z1 := (blk_cell A1.out 1).trans rfl
       go_quiet (fail)
       go_wp2
       go_meet
       exact ⟨⟨false, rfl, ⟨by simp⟩⟩, ⟨pw_below_drewN HB.out _⟩, O, A1⟩
      | true =>
      cases bi with
      | false =>
       have z0 := (blk_cell A1.out 0).trans rfl
       have z1 := (blk_cell A1.out 1).trans rfl
       have z2 := (blk_cell B1.out 0).trans rfl
       have z3 := (blk_cell B1.out 1).trans rfl
       go_quiet (fail)
       go_wp2
       go_meet
       exact ⟨⟨true, rfl, ⟨by simp⟩⟩, ⟨pw_below_drewN HB.out _⟩, O, A1⟩
      | true =>
       have z0 := (blk_cell A1.out 0).trans rfl
       have z1 := (blk_cell A1.out 1).trans rfl
       have z2 := (blk_cell B1.out 0).trans rfl
       have z3 := (blk_cell B1.out 1).trans rfl
       go_quiet (fail)
       go_wp2
       go_meet
       exact ⟨⟨_, rfl, ⟨by simp⟩⟩, ⟨pw_below_drewN HB.out _⟩, O, A1⟩
     case rest =>
     clear HB O A1 B1
     obtain ⟨⟨cc, rfl, HCC⟩, HB, O, A1⟩ := hcut
     cases cc with
     | false =>
      have HT3 := HT2.out
      rw [if_neg (fun h => absurd (HCC.out.2 h) (by decide))] at HT3
      replace HT3 := Aside0.mk HT3
      clear HT2 HCC
      go_wp2
      go_roundg (es.length - j - 1)
      case measure => have := HJ.out; omega
      case rel => exact ⟨j + 1, out, m, rfl, by go_num, ⟨by omega⟩, HL, HT3, O, HB⟩
     | true =>
      have HT3 := HT2.out
      have hcc := HCC.out.1 rfl
      rw [if_pos hcc] at HT3
      replace HT3 := Aside0.mk HT3
      have hai := hcc.1
      subst hai
      clear HT2 HCC hcc
      have q1 := (HB.out.cell (World.block_lt_of_cell? w _ Q1.out)).trans Q1.out
      have q2 := (HB.out.cell (World.block_lt_of_cell? w _ Q2.out)).trans Q2.out
      go_wp2
      refine start_ (n := 17) (S := fun w' => w'.heap[ba]? = some (.cells #[.bool true, .int .i64 ad1] 94 (0, 0)) ∧ w'.heap[bo]? = some (.cells (encW out) 94 (0, 0)) ∧ w'.cell? ⟨(ad.add (j * 3)).block, (ad.add (j * 3)).off + 1, none⟩ = some (.int .i64 e.f1) ∧ w'.cell? ⟨(ad.add (j * 3)).block, (ad.add (j * 3)).off + 2, none⟩ = some (.int .i64 e.f2)) (ds := [16]) #[false, false, false, false, false, false, false, false, false, false, false, false, false, false, false, false, false] (by kernel_rfl) rfl rfl ⟨A1.out, O.out, q1, q2⟩ (fun hHeld => ?_)
      refine pure_ (i := 0) (N := some 69) (v := ?_) (a' := ?_) #[true, false, false, false, false, false, false, false, false, false, false, false, false, false, false, false, false] rfl rfl (by kernel_rfl) (fun _ _ _ h => h) (Or.inl ⟨by rfl, ?_⟩) ?_ ?_
      rotate_left
      ·intro w'
       go_simp
       with_reducible rfl
      rotate_left
      ·simp only [Act.put, List.setIfInBounds_toArray, List.set_cons_zero, List.set_cons_succ, i64_w, i32_w]
       rfl
      refine pure_ (i := 1) (N := some 70) (v := ?_) (a' := ?_) #[true, true, false, false, false, false, false, false, false, false, false, false, false, false, false, false, false] rfl rfl (by kernel_rfl) (fun _ _ _ h => h) (Or.inl ⟨by rfl, ?_⟩) ?_ ?_
      rotate_left
      ·intro w'
       go_simp
       with_reducible rfl
      rotate_left
      ·simp only [Act.put, List.setIfInBounds_toArray, List.set_cons_zero, List.set_cons_succ, i64_w, i32_w]
       rfl
      refine pure_ (i := 2) (N := some 71) (v := ?_) (a' := ?_) #[true, true, true, false, false, false, false, false, false, false, false, false, false, false, false, false, false] rfl rfl (by kernel_rfl) (fun _ _ _ h => h) (Or.inl ⟨by rfl, ?_⟩) ?_ ?_
      rotate_left
      ·intro w'
       go_simp
       with_reducible rfl
      rotate_left
      ·simp only [Act.put, List.setIfInBounds_toArray, List.set_cons_zero, List.set_cons_succ, i64_w, i32_w]
       rfl
      refine pure_ (i := 3) (N := some 72) (v := ?_) (a' := ?_) #[true, true, true, true, false, false, false, false, false, false, false, false, false, false, false, false, false] rfl rfl (by kernel_rfl) (fun _ _ _ h => h) (Or.inl ⟨by rfl, ?_⟩) ?_ ?_
      rotate_left
      ·intro w'
       go_simp
       with_reducible rfl
      rotate_left
      ·simp only [Act.put, List.setIfInBounds_toArray, List.set_cons_zero, List.set_cons_succ, i64_w, i32_w]
       rfl
      refine pure_ (i := 4) (N := some 73) (v := ?_) (a' := ?_) #[true, true, true, true, true, false, false, false, false, false, false, false, false, false, false, false, false] rfl rfl (by kernel_rfl) (fun _ _ _ h => h) (Or.inl ⟨by rfl, ?_⟩) ?_ ?_
      rotate_left
      ·intro w'
       go_simp
       with_reducible rfl
      rotate_left
      ·simp only [Act.put, List.setIfInBounds_toArray, List.set_cons_zero, List.set_cons_succ, i64_w, i32_w]
       rfl
      refine take_ (i := 5) (N := some 74) (v := ?_) (a' := ?_) #[true, true, true, true, true, true, false, false, false, false, false, false, false, false, false, false, false] rfl rfl (by kernel_rfl) (fun _ _ _ h => h) (Or.inl ⟨by rfl, ?_⟩) hHeld ?_ ?_
      rotate_left
      ·rintro w' ⟨s0, s1, s2, s3⟩
       have z1 := (blk_cell s0 1).trans rfl
       go_simp
       with_reducible rfl
      rotate_left
      ·simp only [Act.put, List.setIfInBounds_toArray, List.set_cons_zero, List.set_cons_succ, i64_w, i32_w]
       rfl
      refine pure_ (i := 6) (N := some 75) (v := ?_) (a' := ?_) #[true, true, true, true, true, true, true, false, false, false, false, false, false, false, false, false, false] rfl rfl (by kernel_rfl) (fun _ _ _ h => h) (Or.inl ⟨by rfl, ?_⟩) ?_ ?_
      rotate_left
      ·intro w'
       go_simp
       with_reducible rfl
      rotate_left
      ·simp only [Act.put, List.setIfInBounds_toArray, List.set_cons_zero, List.set_cons_succ, i64_w, i32_w]
       rfl
      refine take_ (i := 7) (N := some 76) (v := ?_) (a' := ?_) #[true, true, true, true, true, true, true, true, false, false, false, false, false, false, false, false, false] rfl rfl (by kernel_rfl) (fun _ _ _ h => h) (Or.inl ⟨by rfl, ?_⟩) hHeld ?_ ?_
      rotate_left
      ·rintro w' ⟨s0, s1, s2, s3⟩
       have z1 := (blk_cell s0 1).trans rfl
       go_simp
       with_reducible rfl
      rotate_left
      ·simp only [Act.put, List.setIfInBounds_toArray, List.set_cons_zero, List.set_cons_succ, i64_w, i32_w]
       rfl
      refine pure_ (i := 8) (N := some 77) (v := ?_) (a' := ?_) #[true, true, true, true, true, true, true, true, true, false, false, false, false, false, false, false, false] rfl rfl (by kernel_rfl) (fun _ _ _ h => h) (Or.inl ⟨by rfl, ?_⟩) ?_ ?_
      rotate_left
      ·intro w'
       go_simp
       with_reducible rfl
      rotate_left
      ·simp only [Act.put, List.setIfInBounds_toArray, List.set_cons_zero, List.set_cons_succ, i64_w, i32_w]
       rfl
      refine pure_ (i := 9) (N := some 78) (v := ?_) (a' := ?_) #[true, true, true, true, true, true, true, true, true, true, false, false, false, false, false, false, false] rfl rfl (by kernel_rfl) (fun _ _ _ h => h) (Or.inl ⟨by rfl, ?_⟩) ?_ ?_
      rotate_left
      ·intro w'
       go_simp
       with_reducible rfl
      rotate_left
      ·simp only [Act.put, List.setIfInBounds_toArray, List.set_cons_zero, List.set_cons_succ, i64_w, i32_w]
       rfl
      refine pure_ (i := 10) (N := some 79) (v := ?_) (a' := ?_) #[true, true, true, true, true, true, true, true, true, true, true, false, false, false, false, false, false] rfl rfl (by kernel_rfl) (fun _ _ _ h => h) (Or.inl ⟨by rfl, ?_⟩) ?_ ?_
      rotate_left
      ·intro w'
       go_simp
       with_reducible rfl
      rotate_left
      ·simp only [Act.put, List.setIfInBounds_toArray, List.set_cons_zero, List.set_cons_succ, i64_w, i32_w]
       rfl
      refine pure_ (i := 11) (N := some 80) (v := ?_) (a' := ?_) #[true, true, true, true, true, true, true, true, true, true, true, true, false, false, false, false, false] rfl rfl (by kernel_rfl) (fun _ _ _ h => h) (Or.inl ⟨by rfl, ?_⟩) ?_ ?_
      rotate_left
      ·intro w'
       go_simp
       with_reducible rfl
      rotate_left
      ·simp only [Act.put, List.setIfInBounds_toArray, List.set_cons_zero, List.set_cons_succ, i64_w, i32_w]
       rfl
      refine take_ (i := 12) (N := some 81) (v := ?_) (a' := ?_) #[true, true, true, true, true, true, true, true, true, true, true, true, true, false, false, false, false] rfl rfl (by kernel_rfl) (fun _ _ _ h => h) (Or.inl ⟨by rfl, ?_⟩) hHeld ?_ ?_
      rotate_left
      ·rintro w' ⟨s0, s1, s2, s3⟩
       have z1 := (blk_cell s0 1).trans rfl
       go_simp
       with_reducible rfl
      rotate_left
      ·simp only [Act.put, List.setIfInBounds_toArray, List.set_cons_zero, List.set_cons_succ, i64_w, i32_w]
       rfl
      refine pure_ (i := 13) (N := some 82) (v := ?_) (a' := ?_) #[true, true, true, true, true, true, true, true, true, true, true, true, true, true, false, false, false] rfl rfl (by kernel_rfl) (fun _ _ _ h => h) (Or.inl ⟨by rfl, ?_⟩) ?_ ?_
      rotate_left
      ·intro w'
       go_simp
       with_reducible rfl
      rotate_left
      ·simp only [Act.put, List.setIfInBounds_toArray, List.set_cons_zero, List.set_cons_succ, i64_w, i32_w]
       rfl
      refine pure_ (i := 14) (N := some 83) (v := ?_) (a' := ?_) #[true, true, true, true, true, true, true, true, true, true, true, true, true, true, true, false, false] rfl rfl (by kernel_rfl) (fun _ _ _ h => h) (Or.inl ⟨by rfl, ?_⟩) ?_ ?_
      rotate_left
      ·intro w'
       go_simp
       with_reducible rfl
      rotate_left
      ·simp only [Act.put, List.setIfInBounds_toArray, List.set_cons_zero, List.set_cons_succ, i64_w, i32_w]
       rfl
      refine pure_ (i := 15) (N := some 84) (v := ?_) (a' := ?_) #[true, true, true, true, true, true, true, true, true, true, true, true, true, true, true, true, false] rfl rfl (by kernel_rfl) (fun _ _ _ h => h) (Or.inl ⟨by rfl, ?_⟩) ?_ ?_
      rotate_left
      ·intro w'
       go_simp
       with_reducible rfl
      rotate_left
      ·simp only [Act.put, List.setIfInBounds_toArray, List.set_cons_zero, List.set_cons_succ, i64_w, i32_w]
       rfl
      refine last_ (i := 16) (N := none) #[true, true, true, true, true, true, true, true, true, true, true, true, true, true, true, true, true] rfl rfl (by kernel_rfl) (by decide) (fun K hK => ?_)
      have zc0 := (blk_cell O.out (e.f1.toNat * 2)).trans C1.out.1
      have zc1 := (blk_cell O.out (e.f1.toNat * 2 + 1)).trans C1.out.2
      have zf0 := blk_frozen O.out (e.f1.toNat * 2)
      have zf1 := blk_frozen O.out (e.f1.toNat * 2 + 1)
      refine skip_ (w1 := ((wc.setCell ⟨bo, e.f1.toNat * 2, none⟩ (.bool true)).setCell ⟨bo, e.f1.toNat * 2 + 1, none⟩ (.int .i64 (wrap64 (ad1 + e.f2)))).drew) (by rfl) rfl ?_ ?_
      ·go_simp
       try rfl
      have O2 : Aside0 ((World.heap (((wc.setCell ⟨bo, e.f1.toNat * 2, none⟩ (.bool true)).setCell ⟨bo, e.f1.toNat * 2 + 1, none⟩ (.int .i64 (wrap64 (ad1 + e.f2)))).drew))[bo]? = some (.cells (encW (out.set e.f1.toNat ⟨true, wrap64 (ad1 + e.f2)⟩)) 94 (0, 0))) := Aside0.mk (blk_drew (blk_put (blk_put O.out (e.f1.toNat * 2) (.bool true) rfl) (e.f1.toNat * 2 + 1) (.int .i64 (wrap64 (ad1 + e.f2))) (encW_set _ _ ⟨true, wrap64 (ad1 + e.f2)⟩ HLT.out)))
      have HB2 : Aside0 (Below w.heap.size w (((wc.setCell ⟨bo, e.f1.toNat * 2, none⟩ (.bool true)).setCell ⟨bo, e.f1.toNat * 2 + 1, none⟩ (.int .i64 (wrap64 (ad1 + e.f2)))).drew)) := Aside0.mk (below_drew (below_set (below_set HB.out HBO.out) HBO.out))
      refine hK.out _ _ ?_
      clear hK K zc0 zc1 zf0 zf1
      generalize ((wc.setCell ⟨bo, e.f1.toNat * 2, none⟩ (.bool true)).setCell ⟨bo, e.f1.toNat * 2 + 1, none⟩ (.int .i64 (wrap64 (ad1 + e.f2)))).drew = w6 at O2 HB2 ⊢
      refine done_ (by kernel_rfl) ?_
      clear hHeld
      have HL2 := Aside0.mk (show (out.set e.f1.toNat ⟨true, wrap64 (ad1 + e.f2)⟩).length = n + 1 by rw [List.length_set]; exact HL.out)
      go_wp2
      go_roundg (es.length - j - 1)
      case measure => have := HJ.out; omega
      case rel => exact ⟨j + 1, _, true, rfl, by go_num, ⟨by omega⟩, HL2, HT3, O2, HB2⟩
    ·have HI := Aside0.mk (show j = es.length by have := HJ.out; omega)
     have HTE := Aside0.mk (show (out, m) = T by have := HT.out; rw [HI.out, List.drop_length] at this; exact this)
     have H3 := H2.out
     rw [← HTE.out] at H3
     cases m with
     | true =>
      rw [if_pos rfl] at H3
      replace H3 := Aside0.mk H3
      clear HT HTE H2
      go_wp2
      go_roundg k1
      case measure => omega
      case rel => exact ⟨i + 1, out, by go_num, ⟨by have := HK.out; omega⟩, HL, H3, O, HB⟩
     | false =>
      rw [if_neg (by simp)] at H3
      obtain ⟨rfl, rfl⟩ := Prod.mk.inj H3
      clear HT HTE H2 H3
      go_wp2
      go_ret2
      exact ⟨_, rfl, by have h := cells_R k94 rfl cell2_len k94_mkM (b := bo) (base := w.heap.size) (ok := fun _ => True) (l := out) O.out HBO.out trivial (by have := HL.out; omega); rw [HL.out] at h; exact h, HB.out⟩
  ·have hk : gk = 0 := by have := HK.out; omega
   subst hk
   obtain ⟨rfl, rfl⟩ := Prod.mk.inj H.out
   go_wp2
   go_ret2
   exact ⟨_, rfl, Kd.R_nil _ _ _ _ _, HB.out⟩
section
def toE (a : S105) : S108 := ⟨a.f0, a.f1, a.f2⟩
def isR (out : List S94) (v : Nat) : Bool := (out.getD v z94).f0
def dR (out : List S94) (v : Nat) : Int := (out.getD v z94).f1
structure RI (n : Nat) (E : List S105) (s : Nat) (out : List S94) (B : Nat) : Prop where
 len : out.length = n + 1
 start : isR out s = true ∧ 0 ≤ dR out s
 walk : ∀ v, v ≤ n → isR out v = true → Walk E s v (dR out v)
 bnd : ∀ v, v ≤ n → isR out v = true → -(1000 * (B : Int)) ≤ dR out v ∧ dR out v ≤ 1000 * (B : Int)
 unk : ∀ v, isR out v = false → dR out v = 0
def Fits (out : List S94) (a : S105) : Prop := isR out a.f0.toNat = true → isR out a.f1.toNat = true ∧ dR out a.f0.toNat + a.f2 ≤ dR out a.f1.toNat
section
variable {n s : Nat} {E : List S105} {out : List S94} {B : Nat} {a : S105}
theorem RI.more (h : RI n E s out B) {B2 : Nat} (hB : B ≤ B2) : RI n E s out B2 := { h with bnd := fun v hv hk => by have := h.bnd v hv hk; omega }
theorem set_out (h : RI n E s out B) (t : Nat) (ht : t ≤ n) (z : Int) (v : Nat) : isR (out.set t ⟨true, z⟩) v = (if v = t then true else isR out v) ∧ dR (out.set t ⟨true, z⟩) v = (if v = t then z else dR out v) := by
 unfold isR dR
 rw [gset _ _ _ _ _ (by have := h.len; omega)]
 split <;> exact ⟨rfl, rfl⟩
theorem lgo_cons (L : List S105) (m : Bool) : lgo ((a :: L).map toE) out m = if isR out a.f0.toNat = true ∧ (isR out a.f1.toNat = false ∨ dR out a.f1.toNat < wrap64 (dR out a.f0.toNat + a.f2))
  then lgo (L.map toE) (out.set a.f1.toNat ⟨true, wrap64 (dR out a.f0.toNat + a.f2)⟩) true else lgo (L.map toE) out m := rfl
theorem RI.wrap (h : RI n E s out B) (hE : ArcsOk n E) (ha : a ∈ E) (hB : B ≤ 1000000000000) (hk : isR out a.f0.toNat = true) : wrap64 (dR out a.f0.toNat + a.f2) = dR out a.f0.toNat + a.f2 := by
 have h1 := hE a ha
 have h2 := h.bnd a.f0.toNat (by omega) hk
 unfold wrap64
 omega
theorem lgo_spec (hE : ArcsOk n E) : ∀ (L : List S105) (out : List S94) (m : Bool) (B : Nat), (∀ a ∈ L, a ∈ E) → RI n E s out B → B + L.length ≤ 1000000000000 →
  RI n E s (lgo (L.map toE) out m).1 (B + L.length) ∧ (∀ v, isR out v = true → isR (lgo (L.map toE) out m).1 v = true ∧ dR out v ≤ dR (lgo (L.map toE) out m).1 v) ∧
  ((lgo (L.map toE) out m).2 = false → m = false ∧ (lgo (L.map toE) out m).1 = out ∧ ∀ a ∈ L, Fits out a) ∧
  (∀ a ∈ L, isR out a.f0.toNat = true → isR (lgo (L.map toE) out m).1 a.f1.toNat = true ∧ dR out a.f0.toNat + a.f2 ≤ dR (lgo (L.map toE) out m).1 a.f1.toNat) := by
 intro L
 induction L with
 | nil =>
  intro out m B _ h hB
  exact ⟨h, fun v hv => ⟨hv, Int.le_refl _⟩, fun h => ⟨h, rfl, fun a ha => by cases ha⟩, fun a ha => by cases ha⟩
 | cons a L ih =>
  intro out m B hL h hB
  have ha := hL a List.mem_cons_self
  have hL2 := fun b hb => hL b (List.mem_cons_of_mem _ hb)
  have hb := hE a ha
  simp only [List.length_cons] at hB
  rw [lgo_cons, List.length_cons]
  by_cases hc : isR out a.f0.toNat = true ∧ (isR out a.f1.toNat = false ∨ dR out a.f1.toNat < wrap64 (dR out a.f0.toNat + a.f2))
  ·rw [if_pos hc]
   have hw := h.wrap hE ha (by omega) hc.1
   rw [hw]
   have hso := set_out h a.f1.toNat (by omega) (dR out a.f0.toNat + a.f2)
   have hstep : ∀ v, isR out v = true → isR (out.set a.f1.toNat ⟨true, dR out a.f0.toNat + a.f2⟩) v = true ∧ dR out v ≤ dR (out.set a.f1.toNat ⟨true, dR out a.f0.toNat + a.f2⟩) v := fun v hv => by
    rw [(hso v).1, (hso v).2]
    by_cases e : v = a.f1.toNat
    ·rw [if_pos e, if_pos e]
     refine ⟨rfl, ?_⟩
     rcases hc.2 with h2 | h2
     ·rw [← e, hv] at h2; cases h2
     ·rw [hw, ← e] at h2; omega
    ·rw [if_neg e, if_neg e]
     exact ⟨hv, Int.le_refl _⟩
   have h1 : RI n E s (out.set a.f1.toNat ⟨true, dR out a.f0.toNat + a.f2⟩) (B + 1) := by
    refine ⟨by rw [List.length_set]; exact h.len, ?_, ?_, ?_, ?_⟩
    ·have := hstep s h.start.1
     have := h.start.2
     exact ⟨(hstep s h.start.1).1, by omega⟩
    ·intro v hv hk
     rw [(hso v).1] at hk
     rw [(hso v).2]
     by_cases e : v = a.f1.toNat
     ·rw [if_pos e, e]
      exact .snoc (h.walk a.f0.toNat (by omega) hc.1) ha (by omega) (by omega)
     ·rw [if_neg e] at hk ⊢
      exact h.walk v hv hk
    ·intro v hv hk
     rw [(hso v).1] at hk
     rw [(hso v).2]
     by_cases e : v = a.f1.toNat
     ·rw [if_pos e]
      have := h.bnd a.f0.toNat (by omega) hc.1
      omega
     ·rw [if_neg e] at hk ⊢
      have := h.bnd v hv hk
      omega
    ·intro v hk
     rw [(hso v).1] at hk
     rw [(hso v).2]
     by_cases e : v = a.f1.toNat
     ·rw [if_pos e] at hk; cases hk
     ·rw [if_neg e] at hk ⊢
      exact h.unk v hk
   obtain ⟨i1, i2, i3, i4⟩ := ih _ true (B + 1) hL2 h1 (by omega)
   refine ⟨by rw [show B + (L.length + 1) = B + 1 + L.length by omega]; exact i1, ?_, fun hf => absurd (i3 hf).1 (by decide), ?_⟩
   ·intro v hv
    have q := hstep v hv
    have q2 := i2 v q.1
    exact ⟨q2.1, by have := q.2; have := q2.2; omega⟩
   ·intro b hb hk
    rcases List.mem_cons.1 hb with rfl | hb
    ·have q := hso b.f1.toNat
     rw [if_pos rfl, if_pos rfl] at q
     have q2 := i2 b.f1.toNat q.1
     rw [q.2] at q2
     exact q2
    ·have q := hstep b.f0.toNat hk
     have q2 := i4 b hb q.1
     exact ⟨q2.1, by have := q.2; have := q2.2; omega⟩
  ·rw [if_neg hc]
   obtain ⟨i1, i2, i3, i4⟩ := ih out m B hL2 h (by omega)
   have hf : Fits out a := fun hk => by
    have hw := h.wrap hE ha (by omega) hk
    rw [hw] at hc
    cases e : isR out a.f1.toNat with
    | false => exact absurd ⟨hk, .inl e⟩ hc
    | true =>
     refine ⟨rfl, ?_⟩
     have : ¬ dR out a.f1.toNat < dR out a.f0.toNat + a.f2 := fun h2 => hc ⟨hk, .inr h2⟩
     omega
   refine ⟨i1.more (by omega), i2, fun h2 => ⟨(i3 h2).1, (i3 h2).2.1, fun b hb => ?_⟩, ?_⟩
   ·rcases List.mem_cons.1 hb with rfl | hb
    ·exact hf
    ·exact (i3 h2).2.2 b hb
   ·intro b hb hk
    rcases List.mem_cons.1 hb with rfl | hb
    ·have q := hf hk
     have q2 := i2 _ q.1
     exact ⟨q2.1, by have := q.2; have := q2.2; omega⟩
    ·exact i4 b hb hk
theorem lgo_fix (hE : ArcsOk n E) (h : RI n E s out B) (hB : B ≤ 1000000000000) : ∀ (L : List S105) (m : Bool), (∀ a ∈ L, a ∈ E) → (∀ a ∈ L, Fits out a) → lgo (L.map toE) out m = (out, m) := by
 intro L
 induction L with
 | nil => intro m _ _; rfl
 | cons a L ih =>
  intro m hL hf
  rw [lgo_cons, if_neg]
  ·exact ih m (fun b hb => hL b (List.mem_cons_of_mem _ hb)) (fun b hb => hf b (List.mem_cons_of_mem _ hb))
  ·rintro ⟨h1, h2⟩
   have h3 := hf a List.mem_cons_self h1
   rw [h.wrap hE (hL a List.mem_cons_self) hB h1] at h2
   rcases h2 with h2 | h2
   ·rw [h3.1] at h2; cases h2
   ·have := h3.2; omega
theorem lrounds_false : ∀ (es : List S108) (K : Nat) (out r : List S94), lrounds es K out = (r, false) → r = [] := by
 intro es K
 induction K with
 | zero => intro out r h; exact (Prod.mk.inj h).1.symm
 | succ K ih =>
  intro out r h
  simp only [lrounds] at h
  split at h
  ·exact ih _ _ h
  ·have := (Prod.mk.inj h).2; cases this
theorem lrounds_true (hE : ArcsOk n E) : ∀ (K : Nat) (out r : List S94) (B : Nat), RI n E s out B → B + K * E.length ≤ 1000000000000 → lrounds (E.map toE) K out = (r, true) → (∃ B2, RI n E s r B2) ∧ ∀ a ∈ E, Fits r a := by
 intro K
 induction K with
 | zero => intro out r B _ _ h; have := (Prod.mk.inj h).2; cases this
 | succ K ih =>
  intro out r B h hB hr
  rw [Nat.succ_mul] at hB
  obtain ⟨i1, i2, i3, i4⟩ := lgo_spec hE E out false B (fun a ha => ha) h (by omega)
  simp only [lrounds] at hr
  split at hr
  ·exact ih _ r _ i1 (by omega) hr
  ·rename_i hm
   obtain ⟨e, _⟩ := Prod.mk.inj hr
   obtain ⟨_, q2, q3⟩ := i3 (by simpa using hm)
   rw [← e, q2]
   exact ⟨⟨B, h⟩, q3⟩
theorem lrounds_ends (hE : ArcsOk n E) {is : Nat → Bool} {d : Nat → Int} (hd : Longest n E s is d) : ∀ (K j : Nat) (out : List S94) (B : Nat), RI n E s out B → B + K * E.length ≤ 1000000000000 → j ≤ n → n + 2 ≤ j + K →
  (∀ m, m ≤ j → ∀ v, Tight E d s m v → isR out v = true ∧ d v ≤ dR out v) → ∃ r, lrounds (E.map toE) K out = (r, true) := by
 intro K
 induction K with
 | zero => intro j out B _ _ h1 h2; omega
 | succ K ih =>
  intro j out B h hB hj hK ht
  rw [Nat.succ_mul] at hB
  obtain ⟨i1, i2, i3, i4⟩ := lgo_spec hE E out false B (fun a ha => ha) h (by omega)
  by_cases hm : (lgo (E.map toE) out false).2 = true
  ·by_cases hjn : j = n
   ·
    exfalso
    have hex : ∀ v, v ≤ n → isR out v = true → is v = true ∧ dR out v = d v := fun v hv hk => by
     have h1 := hd.closed.walk (h.walk v hv hk)
     obtain ⟨m, hmn, htm⟩ := hd.tight v hv h1.1
     have h2 := ht m (by omega) v htm
     exact ⟨h1.1, by have := h1.2; have := h2.2; omega⟩
    have hin : ∀ v, v ≤ n → is v = true → isR out v = true := fun v hv hk => by
     obtain ⟨m, hmn, htm⟩ := hd.tight v hv hk
     exact (ht m (by omega) v htm).1
    have hfit : ∀ a ∈ E, Fits out a := fun a ha hk => by
     have hb := hE a ha
     have h1 := hex a.f0.toNat (by omega) hk
     have h2 := hd.closed.arc a ha h1.1
     have h3 := hin a.f1.toNat (by omega) h2.1
     have h4 := hex a.f1.toNat (by omega) h3
     exact ⟨h3, by rw [h1.2, h4.2]; exact h2.2⟩
    rw [lgo_fix hE h (by omega) E false (fun a ha => ha) hfit] at hm
    cases hm
   ·simp only [lrounds]
    rw [if_pos hm]
    refine ih (j + 1) _ _ i1 (by omega) (by omega) (by omega) ?_
    intro m hm2 v htm
    cases htm with
    | nil =>
     have h1 := ht 0 (by omega) s .nil
     have h2 := i2 s h1.1
     exact ⟨h2.1, by have := h1.2; have := h2.2; omega⟩
    | @snoc m x t a hx ha h0 h1 he =>
     have h2 := ht m (by omega) x hx
     have h3 := i4 a ha (by rw [h0, Int.toNat_natCast]; exact h2.1)
     rw [h0, h1, Int.toNat_natCast, Int.toNat_natCast] at h3
     exact ⟨h3.1, by have := h3.2; have := h2.2; omega⟩
  ·simp only [lrounds]
   rw [if_neg hm]
   exact ⟨_, rfl⟩
def outInit (n s : Nat) : List S94 := (List.replicate (n + 1) ⟨false, 0⟩).set s ⟨true, 0⟩
theorem outInit_is (hs : s ≤ n) (v : Nat) : isR (outInit n s) v = (if v = s then true else false) ∧ dR (outInit n s) v = 0 := by
 unfold isR dR outInit
 rw [gset _ _ _ _ _ (by rw [List.length_replicate]; omega)]
 split
 ·exact ⟨rfl, rfl⟩
 ·have h : (List.replicate (n + 1) (⟨false, 0⟩ : S94)).getD v z94 = ⟨false, 0⟩ := gets_rep _ _ _
  rw [h]
  exact ⟨rfl, rfl⟩
theorem outInit_RI (hs : s ≤ n) : RI n E s (outInit n s) 0 := by
 have h := outInit_is hs
 have h2 : ∀ v, isR (outInit n s) v = true → v = s := fun v hv => by
  rw [(h v).1] at hv
  split at hv
  ·assumption
  ·cases hv
 refine ⟨by simp [outInit], ⟨by rw [(h s).1, if_pos rfl], by rw [(h s).2]; exact Int.le_refl _⟩, ?_, ?_, fun v _ => (h v).2⟩
 ·intro v hv hk
  rw [(h v).2, h2 v hk]
  exact .nil
 ·intro v hv hk
  rw [(h v).2]
  omega
theorem ref_longest (hn : n ≤ 1200) (hE : ArcsOk n E) (hs : s ≤ n) (hlen : E.length ≤ 100000) (R : FRes) (hR : FarPost n s E R) :
  match R with
  | .loop _ => lrounds (E.map toE) (n + 2) (outInit n s) = ([], false)
  | .done st => Longest n E s (kn st) (sm st) ∧ ∃ out, lrounds (E.map toE) (n + 2) (outInit n s) = (out, true) ∧ out.length = n + 1 ∧ ∀ v, v ≤ n → isR out v = kn st v ∧ dR out v = if kn st v = true then sm st v else 0 := by
 have hB : 0 + (n + 2) * E.length ≤ 1000000000000 := by
  have : (n + 2) * E.length ≤ 1202 * 100000 := Nat.mul_le_mul (by omega) hlen
  omega
 have hini := outInit_RI (n := n) (E := E) hs
 have hclosed : ∀ r, lrounds (E.map toE) (n + 2) (outInit n s) = (r, true) → (∃ B2, RI n E s r B2) ∧ Closed E s (isR r) (dR r) := fun r hr => by
  obtain ⟨⟨B2, h1⟩, h2⟩ := lrounds_true hE (n + 2) _ r 0 hini hB hr
  exact ⟨⟨B2, h1⟩, h1.start.1, h1.start.2, fun a ha hk => h2 a ha hk⟩
 cases R with
 | loop l =>
  obtain ⟨_, hl⟩ := hR
  cases hq : lrounds (E.map toE) (n + 2) (outInit n s) with
  | mk r b =>
   cases b with
   | false => rw [lrounds_false _ _ _ _ hq]
   | true => exact ((hclosed r hq).2.no_loop hl).elim
 | done st =>
  obtain ⟨P, tm, T, hh⟩ := hR
  have hlong := hh.longest hn hE hs
  refine ⟨hlong, ?_⟩
  obtain ⟨r, hr⟩ := lrounds_ends hE hlong (n + 2) 0 (outInit n s) 0 hini hB (by omega) (by omega) (fun m hm v ht => by
   obtain rfl : m = 0 := by omega
   cases ht with
   | nil => exact ⟨hini.start.1, by rw [hlong.zero]; exact hini.start.2⟩)
  obtain ⟨⟨B2, hri⟩, hcl⟩ := hclosed r hr
  have hu := hlong.unique hcl hri.walk
  refine ⟨r, hr, hri.len, fun v hv => ⟨(hu v hv).1, ?_⟩⟩
  split
  ·rename_i hk
   exact (hu v hv).2 hk
  ·rename_i hk
   refine hri.unk v ?_
   rw [(hu v hv).1]
   simpa using hk
end
end
end Go.Proofs.Ytegejpcglabhbaa.G
