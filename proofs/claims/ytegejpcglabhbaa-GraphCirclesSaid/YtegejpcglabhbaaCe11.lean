/- A part of this claim's proof: texts of its author, and printed ones, packed by a program of its author's. -/
import Derived.Test.YtegejpcglabhbaaCe10
namespace Go.Proofs.Ytegejpcglabhbaa.G
open Go.RowKit Go.Proofs.YtegejpcglabhbaaW.PrintWords Go.Proofs.YtegejpcglabhbaaW.PrintLast Go.Proofs.YtegejpcglabhbaaW.PrintMore
set_option linter.unusedVariables false
set_option linter.unusedSimpArgs false
theorem encI_C {w : World} {b : Nat} {l : List Int} (h : w.heap[b]? = some (.cells (encI l) 3 (0, 0))) (hl : l.length ≤ 9223372036854775807) : Kd.C (Kd.int .i64) w (some ⟨b, 0, none⟩) l.length l :=
 ⟨rfl, hl, fun _ => ⟨⟨b, 0, none⟩, rfl, fun j p hj => ⟨[.int .i64 p], rfl, rfl, fun i u hu => by
  have hi : i = 0 := by have := (List.getElem?_eq_some_iff.1 hu).1; simp at this; exact this
  subst hi
  obtain ⟨hj1, hj2⟩ := List.getElem?_eq_some_iff.1 hj
  rw [add_plain]
  refine (blk_cell h _).trans ((show (encI l)[j * 1 + 0]? = (encI l)[j]? by simp).trans ((encI_get hj1).trans ?_))
  simp only [List.getElem?_cons_zero, Option.some.injEq] at hu
  rw [← hu, List.getD_eq_getElem?_getD, hj]
  rfl⟩⟩⟩
theorem encI_F {w : World} {b : Nat} {l : List Int} {ok : Nat → Prop} (h : w.heap[b]? = some (.cells (encI l) 3 (0, 0))) (hl : l.length ≤ 9223372036854775807) (hok : ok b) : Kd.F (Kd.int .i64) w ok (some ⟨b, 0, none⟩) l.length l :=
 fun W' hW => encI_C ((hW b hok (blk_lt h)).trans h) hl
theorem foldl_mem (l : List S105) : ∀ (rows : List (List S105)) (m : List S105), (∀ r ∈ rows, ∀ a ∈ r, a ∈ m) → ∀ r ∈ l.foldl addArc rows, ∀ a ∈ r, a ∈ m ++ l := by
 induction l with
 | nil => intro rows m h r hr a ha; simpa using h r hr a ha
 | cons x l ih =>
  intro rows m h r hr a ha
  rw [List.foldl_cons] at hr
  have := ih (addArc rows x) (m ++ [x]) (fun s hs b hb => by
   unfold addArc at hs
   rcases List.mem_or_eq_of_mem_set hs with hs | hs
   ·exact List.mem_append_left _ (h s hs b hb)
   ·subst hs
    rcases List.mem_append.1 hb with hb | hb
    ·refine List.mem_append_left _ ?_
     rw [List.getD_eq_getElem?_getD] at hb
     cases hq : rows[x.f0.toNat]? with
     | none => rw [hq] at hb; cases hb
     | some s2 => rw [hq] at hb; exact h s2 (List.mem_of_getElem? hq) b hb
    ·exact List.mem_append_right _ hb) r hr a ha
  simpa [List.append_assoc] using this
theorem rowsOf_mem {N : Nat} {l : List S105} {r : List S105} (hr : r ∈ rowsOf N l) {a : S105} (ha : a ∈ r) : a ∈ l := by
 have := foldl_mem l (List.replicate N []) [] (fun s hs b hb => by
  rw [List.eq_of_mem_replicate hs] at hb
  cases hb) r hr a ha
 simpa using this
def Which (l : List S44) (which : List Int) : Prop := ∀ i ∈ which, 0 ≤ i ∧ i < l.length
theorem allArcs_mem {n : Nat} {l : List S44} {which : List Int} (hfit : ∀ c ∈ l, FitOk n c) (hwh : Which l which) {a : S105} (ha : a ∈ allArcs n l which) :
  0 ≤ a.f0 ∧ a.f0 ≤ n ∧ 0 ≤ a.f1 ∧ a.f1 ≤ n ∧ -1000 ≤ a.f2 ∧ a.f2 ≤ 1000 ∧ (a.f3 = -1 ∨ a.f3 ∈ which) := by
 rcases List.mem_append.1 ha with ha | ha
 ·obtain ⟨v, hv, rfl⟩ := List.mem_map.1 ha
  have := List.mem_range.1 hv
  simp only [natArc]
  exact ⟨by omega, by omega, by omega, by omega, by omega, by omega, .inl trivial⟩
 ·obtain ⟨i, hi, ha⟩ := List.mem_flatMap.1 ha
  have hw := hwh i hi
  have := arcs_mem (hfit _ (mem_rd44 hw.1 hw.2)) (Int.natCast_nonneg n) ha
  obtain ⟨h0, h1, h2, h3, h4, h5, h6⟩ := this
  exact ⟨h0, h1, h2, h3, h4, h5, .inr (h6 ▸ hi)⟩
theorem rows_arc {n : Nat} {l : List S44} {which : List Int} (hfit : ∀ c ∈ l, FitOk n c) (hwh : Which l which) : ∀ r ∈ rowsOf (n + 1) (allArcs n l which), ∀ a ∈ r, 0 ≤ a.f1 ∧ a.f1 ≤ n := fun r hr a ha => by
 have := allArcs_mem hfit hwh (rowsOf_mem hr ha)
 omega
def search (k n : Nat) (l : List S44) (which : List Int) (start : Int) : Option FRes := far k n start (rowsOf (n + 1) (allArcs n l which))
structure SysOk (n : Nat) (l : List S44) : Prop where
 n1 : n ≤ 1200
 len : l.length ≤ 3000
 fit : ∀ c ∈ l, FitOk n c
theorem valid_ok {n : Int} {l : List S44} (h : validB n l = true) : ∃ m : Nat, n = m ∧ SysOk m l := by
 simp only [validB, Bool.and_eq_true, decide_eq_true_eq, List.all_eq_true] at h
 obtain ⟨h0, h1, h2, h3⟩ := h
 obtain ⟨m, rfl⟩ := Int.eq_ofNat_of_zero_le h0
 exact ⟨m, rfl, by omega, h2, fun c hc => fit_ok (h3 c hc)⟩
theorem upTo_length (m : Nat) : (upTo m).length = m := by simp [upTo]
theorem which_upTo (l : List S44) : Which l (upTo l.length) := fun i hi => by
 obtain ⟨j, hj, rfl⟩ := List.mem_map.1 hi
 have := List.mem_range.1 hj
 omega
theorem far_made (k n : Nat) (start : Int) (l : List S44) (which : List Int) (R : FRes) (hs : SysOk n l) (hwh : Which l which) (h : search k n l which start = some R) (hs0 : 0 ≤ start) (hs1 : start ≤ n) (g ob base : Nat) (vs : List Value) (w : World)
  (hg : w.heap[g]? = some (.cells #[.int .i64 (n : Int), .slice (some ⟨ob, 0, none⟩) (n + 1) (n + 1)] 103 (0, 0))) (hrows : RowsAt w base ob vs (rowsOf (n + 1) (allArcs n l which))) :
  Calls Try.prog 62 #[.pointer (some ⟨g, 0, none⟩), .int .i64 start] w fun e w' => ∃ v4 v5 v6 v7, e = .returned (.tuple #[v4, v5, v6, v7]) ∧ FarOut w w' n v4 v5 v6 v7 R ∧ Below w.heap.size w w' :=
 far_any k n start _ g ob base vs w hs.n1 hs0 hs1 hg hrows (rowsOf_length _ _) (rows_arc hs.fit hwh) R h
def solvedOf (n : Nat) : FRes → List Int × Int
 | .loop _ => ([], 20)
 | .done s => (s.sum.take n, 0)
def solvedN (k n : Nat) (l : List S44) : Option (List Int × Int) := (search k n l (upTo l.length) n).map (solvedOf n)
theorem nil_neq (w : World) : (binOp .neq 82 (.slice none 0 0) (.slice none 0 0)).run Try.prog w = .ok (.bool false) w := run_neq_slice_nil_any (P := Try.prog) w 82 105 none 0 0 0 0 Try.underlying82
theorem some_neq (w : World) (b m c : Nat) : (binOp .neq 82 (.slice (some ⟨b, 0, none⟩) m c) (.slice none 0 0)).run Try.prog w = .ok (.bool true) w := run_neq_slice_nil_any (P := Try.prog) w 82 105 (some ⟨b, 0, none⟩) m c 0 0 Try.underlying82
set_option maxHeartbeats 2000000 in
theorem solved_any (k n : Nat) (l : List S44) (A : Option Addr) (c : Nat) (w : World) (hs : SysOk n l) (hr : Kd.C k44 w A l.length l) (hc : l.length ≤ c) (r1 : List Int) (r2 : Int) (h : solvedN k n l = some (r1, r2)) :
  Calls Try.prog 49 #[.int .i64 (n : Int), .slice A l.length c] w fun e w' => ∃ v0_ : Value, e = .returned (.tuple #[v0_, .int .i64 r2]) ∧ Kd.V (Kd.int .i64) 3 w' w.heap.size (fun k_ => (w.heap.size ≤ k_)) v0_ r1 ∧ Below w.heap.size w w' := by
 obtain ⟨R, hR, hR2⟩ := Option.map_eq_some_iff.1 h
 have HS := Aside0.mk hs
 have HR := Aside0.mk hr
 have HC := Aside0.mk hc
 have H := Aside0.mk hR
 have H2 := Aside0.mk hR2
 clear hs hr hc h hR hR2
 go_enter Try.func49, Try.ntmps49
 go_wp2_with (fail)
 refine (graph_every.calls 0 A c l (upTo l.length) _ HR.out HC.out (by unfold graph_every.f; rw [if_pos (by have := HS.out.len; omega)])).mono ?_
 rintro e w1 ⟨v, rfl, hv, hb⟩
 have HB := Aside0.mk hb
 obtain ⟨A2, c2, hv2⟩ := Kd.R_slice hv
 subst hv2
 have HV := Aside0.mk (Kd.R_reads' hv)
 clear hb hv
 rw [upTo_length]
 go_wp2_with (fail)
 have hm := made_any n l (upTo l.length) A c A2 c2 w1 HS.out.n1 HS.out.len HS.out.fit (which_upTo l) (by rw [upTo_length]; exact HS.out.len) (Kd.C_below HR.out HB.out) HC.out HV.out.2.2 HV.out.2.1
 rw [upTo_length] at hm
 refine hm.mono ?_
 clear hm
 rintro e w2 ⟨g, ob, vs, rfl, hg, hrows, hgg, hob, hb⟩
 have HB2 := Aside0.mk (below_step HB.out hb)
 have HG := Aside0.mk hg
 have HRW := Aside0.mk hrows
 clear hg hrows hgg hob hb HB HV
 go_wp2_with (fail)
 refine (far_made k n (n : Int) l (upTo l.length) R HS.out (which_upTo l) H.out (by omega) (by omega) g ob _ vs _ HG.out HRW.out).mono ?_
 rintro e w3 ⟨v4, v5, v6, v7, rfl, ho, hb⟩
 have HB3 := Aside0.mk (below_step HB2.out hb)
 have HO := Aside0.mk ho
 have HZ := Aside0.mk HB2.out.size
 clear ho hb HB2 HG HRW H
 cases R with
 | loop lp =>
  obtain ⟨rfl, rfl, rfl, hne, hl⟩ := HO.out
  obtain ⟨b7, c7, hv7, _⟩ := Kd.R_form hl (List.length_pos_iff.2 hne)
  subst hv7
  obtain ⟨rfl, rfl⟩ := Prod.mk.inj H2.out
  clear HO hl hne H2
  obtain ⟨m7, HM⟩ : ∃ m7, Aside0 (lp.length = m7) := ⟨_, ⟨rfl⟩⟩
  rw [HM.out]
  have qn := fun w => some_neq w b7 m7 c7
  go_wp2
  go_ret2
  exact ⟨_, rfl, Kd.V_nil _ _ _ _ _, HB3.out⟩
 | done s =>
  obtain ⟨bs, bk, bl, rfl, rfl, rfl, rfl, hcs, hck, hcl, hls, hlk, hll, hbs, hbk, hbl⟩ := HO.out
  obtain ⟨rfl, rfl⟩ := Prod.mk.inj H2.out
  have HCS := Aside0.mk hcs
  have HLS := Aside0.mk hls
  have HBS := Aside0.mk hbs
  clear HO H2 hcs hck hcl hls hlk hll hbs hbk hbl
  have qn := nil_neq
  go_wp2
  go_ret2
  have hlt : (s.sum.take n).length = n := by rw [List.length_take, HLS.out]; omega
  have hF := Kd.F_take (m := n) (encI_F (ok := fun k_ => w.heap.size ≤ k_) HCS.out (by rw [HLS.out]; have := HS.out.n1; omega) (Nat.le_trans HZ.out HBS.out)) (by rw [HLS.out]; omega)
  exact ⟨.slice (some ⟨bs, 0, none⟩) n n, rfl, ⟨some ⟨bs, 0, none⟩, n, by rw [hlt], by rw [hlt]; exact Nat.le_refl _, hF⟩, HB3.out⟩
theorem relax.mono (n start : Int) (x k : Nat) : ∀ (l : List S105) (s : FSt) (q : List Int), LeO (relax k n start x l s q) (relax (k + 1) n start x l s q) := by
 intro l
 induction l with
 | nil => intro s q; exact LeO.refl _
 | cons a l ih =>
  intro s q
  simp only [relax]
  refine LeO.ite (ih _ _) (LeO.bind (LeO.ite (graph_loops.mono _ _ _ _) (LeO.refl _)) fun l => LeO.ite (LeO.ite (ih _ _) (ih _ _)) (LeO.refl _))
theorem farL.mono (n start : Int) (rows : List (List S105)) : ∀ (k : Nat) (s : FSt) (q : List Int), LeO (farL n start rows k s q) (farL n start rows (k + 1) s q) := by
 intro k
 induction k with
 | zero => intro s q; exact LeO.none _
 | succ k ih =>
  intro s q
  cases q with
  | nil => exact LeO.refl _
  | cons x q =>
   simp only [farL]
   refine LeO.bind (relax.mono _ _ _ _ _ _ _) fun r => ?_
   cases r with
   | inl l => exact LeO.refl _
   | inr p => exact ih _ _
theorem search.mono (n : Nat) (l : List S44) (which : List Int) (start : Int) (k : Nat) : LeO (search k n l which start) (search (k + 1) n l which start) := farL.mono _ _ _ _ _ _
def graph_Solve.f (k : Nat) (a0 : Int) (l1 : List S44) : Option (List Int × Int) := if validB a0 l1 = true then solvedN k a0.toNat l1 else some ([], 4)
theorem solvedN.mono (n : Nat) (l : List S44) (k : Nat) : LeO (solvedN k n l) (solvedN (k + 1) n l) := LeO.map _ (search.mono _ _ _ _ _)
theorem graph_Solve.mono : ∀ a0 l1 k, LeO (graph_Solve.f k a0 l1) (graph_Solve.f (k + 1) a0 l1) := fun _ _ _ => LeO.ite (solvedN.mono _ _ _) (LeO.refl _)
set_option maxHeartbeats 1000000 in
theorem graph_Solve.calls (k : Nat) (a0 : Int) (A1 : Option Addr) (c1 : Nat) (l1 : List (S44)) (r1 : List Int) (r2 : Int) (w : World) (hr1 : Kd.C k44 w A1 l1.length l1) (hc1 : l1.length ≤ c1) (h : graph_Solve.f k a0 l1 = some (r1, r2)) :
  Calls Try.prog 22 #[.int .i64 a0, .slice A1 l1.length c1] w fun e w' => ∃ v0_ : Value, e = .returned (.tuple #[v0_, .int .i64 r2]) ∧ Kd.V (Kd.int .i64) 3 w' w.heap.size (fun k_ => (w.heap.size ≤ k_)) v0_ r1 ∧ Below w.heap.size w w' := by
 have HR := Aside0.mk hr1
 have HC := Aside0.mk hc1
 have H := Aside0.mk h
 clear hr1 hc1 h
 go_enter Try.func22, Try.ntmps22
 go_wp2_with (fail)
 refine (graph_Valid.calls a0 A1 c1 l1 (validB a0 l1) _ HR.out HC.out rfl).mono ?_
 rintro e w1 ⟨rfl, hb⟩
 have HB := Aside0.mk hb
 clear hb
 cases hv : validB a0 l1 with
 | false =>
  have H2 := H.out
  unfold graph_Solve.f at H2
  rw [hv, if_neg (by decide)] at H2
  obtain ⟨rfl, rfl⟩ := Prod.mk.inj (Option.some.inj H2)
  clear hv H2 H
  go_wp2
  go_ret2
  exact ⟨_, rfl, Kd.V_nil _ _ _ _ _, HB.out⟩
 | true =>
  have H2 := H.out
  unfold graph_Solve.f at H2
  rw [hv, if_pos rfl] at H2
  obtain ⟨n, rfl, hs⟩ := valid_ok hv
  have HS := Aside0.mk hs
  rw [Int.toNat_natCast] at H2
  replace H := Aside0.mk H2
  clear hv hs H2
  go_wp2_with (fail)
  refine (solved_any k n l1 A1 c1 _ HS.out (Kd.C_below HR.out HB.out) HC.out r1 r2 H.out).mono ?_
  rintro e w2 ⟨v, rfl, hv, hb⟩
  have HV := Aside0.mk (Kd.V_mono (ok' := fun k_ => w.heap.size ≤ k_) hv (fun k_ hk => Nat.le_trans HB.out.size hk))
  have HB2 := Aside0.mk (below_step HB.out hb)
  clear hv hb
  go_wp2
  go_ret2
  exact ⟨_, rfl, HV.out, HB2.out⟩
section
theorem php : ∀ (n : Nat) (f : Nat → Nat), (∀ i, i ≤ n → f i < n) → ∃ i j, i < j ∧ j ≤ n ∧ f i = f j := by
 intro n
 induction n with
 | zero => intro f h; exact absurd (h 0 (Nat.le_refl _)) (Nat.not_lt_zero _)
 | succ n ih =>
  intro f h
  by_cases he : ∃ i, i ≤ n ∧ f i = f (n + 1)
  ·obtain ⟨i, hi, e⟩ := he
   exact ⟨i, n + 1, by omega, Nat.le_refl _, e⟩
  ·have h1 : ∀ i, i ≤ n → f i ≠ f (n + 1) := fun i hi e => he ⟨i, hi, e⟩
   obtain ⟨i, j, hij, hj, e⟩ := ih (fun i => if f i = n then f (n + 1) else f i) (fun i hi => by
    have := h i (by omega)
    have := h (n + 1) (Nat.le_refl _)
    have := h1 i hi
    split <;> omega)
   refine ⟨i, j, hij, by omega, ?_⟩
   have a := h1 i (by omega)
   have b := h1 j hj
   split at e <;> split at e <;> omega
def it (f : Nat → Nat) : Nat → Nat → Nat
 | 0, v => v
 | i + 1, v => it f i (f v)
theorem it_add (f : Nat → Nat) (j : Nat) : ∀ (i v : Nat), it f (i + j) v = it f j (it f i v)
 | 0, v => by rw [Nat.zero_add]; rfl
 | i + 1, v => by rw [show i + 1 + j = (i + j) + 1 by omega]; exact it_add f j i (f v)
def lst (last : List S105) (v : Nat) : S105 := last.getD v z105
def nx (last : List S105) (v : Nat) : Nat := (lst last v).f0.toNat
structure Good (n : Nat) (last : List S105) (G : Nat → Prop) : Prop where
 len : last.length = n + 1
 le : ∀ v, G v → v ≤ n
 next : ∀ v, G v → (lst last v).f3 ≠ -2 → 0 ≤ (lst last v).f0 ∧ G (nx last v)
def chainL (last : List S105) : Nat → Nat → List S105
 | 0, _ => []
 | m + 1, v => lst last v :: chainL last m (nx last v)
theorem chainL_length (last : List S105) : ∀ (m v : Nat), (chainL last m v).length = m
 | 0, _ => rfl
 | m + 1, v => by rw [chainL, List.length_cons, chainL_length last m]
theorem Good.at_ {n : Nat} {last : List S105} {G : Nat → Prop} (h : Good n last G) : ∀ (i v : Nat), G v → (∀ j, j < i → (lst last (it (nx last) j v)).f3 ≠ -2) → G (it (nx last) i v)
 | 0, v, hv, _ => hv
 | i + 1, v, hv, hp => h.at_ i (nx last v) ((h.next v hv (hp 0 (by omega))).2) (fun j hj => hp (j + 1) (by omega))
theorem rdc (last : List S105) (v : Nat) : rd_T105 last (v : Int) = lst last v := by
 unfold rd_T105 lst
 rw [Int.toNat_natCast]
theorem l0_spec (n : Nat) (hn : n ≤ 1200) (last : List S105) (G : Nat → Prop) (hG : Good n last G) : ∀ (d j v k : Nat), d + j = n + 1 → G v → d < k →
  (∃ i, i < d ∧ (lst last (it (nx last) i v)).f3 = -2 ∧ (∀ i2, i2 < i → (lst last (it (nx last) i2 v)).f3 ≠ -2) ∧ graph_loops.l0 k last (v : Int) ((n + 1 : Nat) : Int) (j : Int) = some []) ∨
  ((∀ i, i < d → (lst last (it (nx last) i v)).f3 ≠ -2) ∧ graph_loops.l0 k last (v : Int) ((n + 1 : Nat) : Int) (j : Int) = graph_loops.l1 (k - d - 1) last ((it (nx last) d v : Nat) : Int) [] ((it (nx last) d v : Nat) : Int)) := by
 intro d
 induction d with
 | zero =>
  intro j v k hd hv hk
  obtain ⟨k, rfl⟩ : ∃ m, k = m + 1 := ⟨k - 1, by omega⟩
  right
  refine ⟨fun i hi => absurd hi (Nat.not_lt_zero _), ?_⟩
  simp only [graph_loops.l0]
  rw [if_neg (by omega), show k + 1 - 0 - 1 = k by omega]
  rfl
 | succ d ih =>
  intro j v k hd hv hk
  obtain ⟨k, rfl⟩ : ∃ m, k = m + 1 := ⟨k - 1, by omega⟩
  have hvn := hG.le v hv
  have hl := hG.len
  simp only [graph_loops.l0, rdc]
  rw [if_pos (by omega), if_pos (by omega), if_pos (by omega)]
  by_cases h2 : (lst last v).f3 = -2
  ·left
   refine ⟨0, by omega, h2, fun i2 h => absurd h (Nat.not_lt_zero _), ?_⟩
   rw [if_pos h2]
  ·rw [if_neg h2]
   obtain ⟨hf, hg⟩ := hG.next v hv h2
   have hw : wrap64 ((j : Int) + 1) = ((j + 1 : Nat) : Int) := by unfold wrap64; omega
   have hc : (lst last v).f0 = ((nx last v : Nat) : Int) := by unfold nx; omega
   rw [hw, hc]
   rcases ih (j + 1) (nx last v) k (by omega) hg (by omega) with ⟨i, hi, ha, hb, he⟩ | ⟨hb, he⟩
   ·left
    refine ⟨i + 1, by omega, ha, ?_, he⟩
    intro i2 hi2
    cases i2 with
    | zero => exact h2
    | succ i2 => exact hb i2 (by omega)
   ·right
    refine ⟨?_, ?_⟩
    ·intro i2 hi2
     cases i2 with
     | zero => exact h2
     | succ i2 => exact hb i2 (by omega)
    ·rw [he, show k + 1 - (d + 1) - 1 = k - d - 1 by omega]
     rfl
theorem l1_spec (n : Nat) (last : List S105) (G : Nat → Prop) (hG : Good n last G) (x : Nat) : ∀ (p y k : Nat) (acc : List S105), 1 ≤ p → p ≤ k → it (nx last) p y = x → G y → (∀ i, i < p → (lst last (it (nx last) i y)).f3 ≠ -2) → acc.length + p < 4398046511104 →
  ∃ m, 1 ≤ m ∧ m ≤ p ∧ it (nx last) m y = x ∧ graph_loops.l1 k last (x : Int) acc (y : Int) = some (acc ++ chainL last m y) := by
 intro p
 induction p with
 | zero => intro y k acc h; omega
 | succ p ih =>
  intro y k acc _ hk hx hy hp hl
  obtain ⟨k, rfl⟩ : ∃ m, k = m + 1 := ⟨k - 1, by omega⟩
  have hyn := hG.le y hy
  have hlen := hG.len
  obtain ⟨hf, hg⟩ := hG.next y hy (hp 0 (by omega))
  have hc : (lst last y).f0 = ((nx last y : Nat) : Int) := by unfold nx; omega
  simp only [graph_loops.l1, rdc]
  rw [if_pos (by omega), if_pos (by omega), if_pos (by omega), Option.bind_some]
  by_cases he : nx last y = x
  ·refine ⟨1, Nat.le_refl _, by omega, he, ?_⟩
   rw [if_pos (by rw [hc, he])]
   rfl
  ·rw [if_neg (by rw [hc]; intro h; exact he (by omega)), hc]
   have hp0 : 1 ≤ p := by
    rcases Nat.eq_zero_or_pos p with h | h
    ·subst h; exact absurd hx he
    ·exact h
   obtain ⟨m, h1, h2, h3, h4⟩ := ih (nx last y) k (acc ++ [⟨(lst last y).f0, (lst last y).f1, (lst last y).f2, (lst last y).f3⟩]) hp0 (by omega) hx hg (fun i hi => hp (i + 1) (by omega)) (by simp; omega)
   refine ⟨m + 1, by omega, by omega, h3, ?_⟩
   rw [← hc] at h4 ⊢
   rw [h4, List.append_assoc]
   rfl
theorem loops_spec (n : Nat) (hn : n ≤ 1200) (last : List S105) (G : Nat → Prop) (hG : Good n last G) (t k : Nat) (ht : G t) (hk : 2 * n + 10 ≤ k) :
  (∃ i, i ≤ n ∧ (lst last (it (nx last) i t)).f3 = -2 ∧ (∀ i2, i2 < i → (lst last (it (nx last) i2 t)).f3 ≠ -2) ∧ graph_loops.f k last (t : Int) (n : Int) = some []) ∨
  (∃ x m, 1 ≤ m ∧ G x ∧ it (nx last) m x = x ∧ (∀ i, i < m → (lst last (it (nx last) i x)).f3 ≠ -2) ∧ graph_loops.f k last (t : Int) (n : Int) = some (chainL last m x)) := by
 have hw : wrap64 ((n : Int) + 1) = ((n + 1 : Nat) : Int) := by unfold wrap64; omega
 unfold graph_loops.f
 rw [hw]
 rcases l0_spec n hn last G hG (n + 1) 0 t k (by omega) ht (by omega) with ⟨i, hi, ha, hb, he⟩ | ⟨hb, he⟩
 ·exact .inl ⟨i, by omega, ha, hb, he⟩
 ·right
  have hgi : ∀ i, i ≤ n + 1 → G (it (nx last) i t) := fun i hi => hG.at_ i t ht (fun j hj => hb j (by omega))
  obtain ⟨i, j, hij, hj, e⟩ := php (n + 1) (fun i => it (nx last) i t) (fun i hi => by have := hG.le _ (hgi i hi); omega)
  have hper : it (nx last) (j - i) (it (nx last) (n + 1) t) = it (nx last) (n + 1) t := by
   rw [← it_add, show n + 1 + (j - i) = j + (n + 1 - i) by omega, it_add, ← e, ← it_add, show i + (n + 1 - i) = n + 1 by omega]
  have hall : ∀ a, (lst last (it (nx last) a t)).f3 ≠ -2 := by
   intro a
   induction a using Nat.strongRecOn with
   | ind a ih =>
    by_cases ha : a < n + 1
    ·exact hb a ha
    ·have h2 : it (nx last) a t = it (nx last) (a - (j - i)) t := by
      rw [show a = j + (a - j) by omega, it_add, ← e, ← it_add, show i + (a - j) = j + (a - j) - (j - i) by omega]
     rw [h2]
     exact ih _ (by omega)
  obtain ⟨m, h1, h2, h3, h4⟩ := l1_spec n last G hG (it (nx last) (n + 1) t) (j - i) (it (nx last) (n + 1) t) (k - (n + 1) - 1) [] (by omega) (by omega) hper (hgi _ (Nat.le_refl _)) (fun a _ => by rw [← it_add]; exact hall _) (by simp; omega)
  exact ⟨_, m, h1, hgi _ (Nat.le_refl _), h3, fun a _ => by rw [← it_add]; exact hall _, he.trans h4⟩
def sumR (m : Nat) (f : Nat → Nat) : Nat := ((List.range m).map f).sum
theorem sumR_succ (m : Nat) (f : Nat → Nat) : sumR (m + 1) f = sumR m f + f m := by
 simp [sumR, List.range_succ]
theorem sumR_same {m : Nat} {f g : Nat → Nat} (h : ∀ v, v < m → f v = g v) : sumR m f = sumR m g := by
 induction m with
 | zero => rfl
 | succ m ih => rw [sumR_succ, sumR_succ, ih (fun v hv => h v (by omega)), h m (by omega)]
theorem sumR_upd {m t : Nat} {f g : Nat → Nat} (ht : t < m) (h : ∀ v, v < m → v ≠ t → f v = g v) : sumR m f + g t = sumR m g + f t := by
 induction m with
 | zero => omega
 | succ m ih =>
  rw [sumR_succ, sumR_succ]
  by_cases e : t = m
  ·subst e
   rw [sumR_same (fun v hv => h v (by omega) (by omega))]
   omega
  ·have := ih (by omega) (fun v hv hne => h v (by omega) hne)
   rw [h m (by omega) (by omega)]
   omega
theorem sumR_le {m c : Nat} {f : Nat → Nat} (h : ∀ v, v < m → f v ≤ c) : sumR m f ≤ m * c := by
 induction m with
 | zero => simp [sumR]
 | succ m ih =>
  rw [sumR_succ, Nat.succ_mul]
  have := ih (fun v hv => h v (by omega))
  have := h m (by omega)
  omega
theorem gset {α : Type} (l : List α) (i j : Nat) (v d : α) (h : i < l.length) : (l.set i v).getD j d = if j = i then v else l.getD j d := by
 by_cases e : j = i
 ·subst e
  rw [if_pos rfl, List.getD_eq_getElem?_getD, List.getElem?_set_self h]
  rfl
 ·rw [if_neg e, List.getD_eq_getElem?_getD, List.getElem?_set_ne (Ne.symm e), ← List.getD_eq_getElem?_getD]
def kn (st : FSt) (v : Nat) : Bool := st.known.getD v false
def sm (st : FSt) (v : Nat) : Int := st.sum.getD v 0
def sp (st : FSt) (v : Nat) : Int := st.steps.getD v 0
def wt (st : FSt) (v : Nat) : Bool := st.waits.getD v false
inductive Walk (E : List S105) (s : Nat) : Nat → Int → Prop
 | nil : Walk E s s 0
 | snoc {x t : Nat} {d : Int} {a : S105} (h : Walk E s x d) (ha : a ∈ E) (hx : a.f0 = x) (ht : a.f1 = t) : Walk E s t (d + a.f2)
def ArcsOk (n : Nat) (E : List S105) : Prop := ∀ a ∈ E, 0 ≤ a.f0 ∧ a.f0 ≤ n ∧ 0 ≤ a.f1 ∧ a.f1 ≤ n ∧ -1000 ≤ a.f2 ∧ a.f2 ≤ 1000 ∧ a.f3 ≠ -2
def pv (n : Nat) (st : FSt) (v : Nat) : Nat := if kn st v = true then (1000 * (n : Int) - sm st v).toNat else 2000 * n + 2001
def pot (n : Nat) (st : FSt) : Nat := sumR (n + 1) (pv n st)
def cnt (n : Nat) (st : FSt) : Nat := sumR (n + 1) fun v => if kn st v = true then 1 else 0
theorem cnt_le (n : Nat) (st : FSt) : cnt n st ≤ n + 1 := by
 have := sumR_le (m := n + 1) (c := 1) (f := fun v => if kn st v = true then 1 else 0) (fun v _ => by split <;> omega)
 unfold cnt
 omega
def ParOk (n : Nat) (E : List S105) (st : FSt) (tm : Nat → Nat) : Prop := ∀ v, v ≤ n → kn st v = true → (lst st.last v).f3 ≠ -2 →
 lst st.last v ∈ E ∧ (lst st.last v).f1 = v ∧ kn st (nx st.last v) = true ∧ (sm st v < sm st (nx st.last v) + (lst st.last v).f2 ∨ (sm st v = sm st (nx st.last v) + (lst st.last v).f2 ∧ tm (nx st.last v) < tm v))
structure Lens (n : Nat) (st : FSt) : Prop where
 sum : st.sum.length = n + 1
 known : st.known.length = n + 1
 last : st.last.length = n + 1
 waits : st.waits.length = n + 1
 steps : st.steps.length = n + 1
structure Core (n s : Nat) (E : List S105) (st : FSt) (P : Nat) (tm : Nat → Nat) (T : Nat) : Prop where
 len : Lens n st
 ks : kn st s = true
 ss : sm st s = 0
 ls : (lst st.last s).f3 = -2
 pres : ∀ v, v ≤ n → kn st v = true → v ≠ s → (lst st.last v).f3 ≠ -2
 par : ParOk n E st tm
 walk : ∀ v, v ≤ n → kn st v = true → Walk E s v (sm st v)
 wlen : ∀ v, v ≤ n → kn st v = true → 0 ≤ sp st v ∧ sm st v ≤ 1000 * sp st v
 ub : ∀ v, v ≤ n → kn st v = true → sm st v ≤ 1000 * (n : Int)
 lb : ∀ v, v ≤ n → kn st v = true → -(1000 * (cnt n st : Int)) ≤ sm st v
 stp : ∀ v, v ≤ n → kn st v = true → sp st v + (pot n st : Int) ≤ P
 tmT : ∀ v, tm v < T
structure Raises (n : Nat) (E : List S105) (st : FSt) (x t : Nat) (a : S105) : Prop where
 xn : x ≤ n
 tn : t ≤ n
 kx : kn st x = true
 mem : a ∈ E
 f0 : a.f0 = x
 f1 : a.f1 = t
 up : kn st t = true → sm st t < sm st x + a.f2
section
variable {n s : Nat} {E : List S105} {st : FSt} {P : Nat} {tm : Nat → Nat} {T x t : Nat} {a : S105}
theorem wrap_small {z : Int} (h1 : -4000000 ≤ z) (h2 : z ≤ 4000000000) : wrap64 z = z := by
 unfold wrap64
 omega
theorem Core.wrapS (h : Core n s E st P tm T) (hn : n ≤ 1200) (hE : ArcsOk n E) (r : Raises n E st x t a) : wrap64 (st.sum.getD x 0 + a.f2) = sm st x + a.f2 := by
 have h1 := h.ub x r.xn r.kx
 have h2 := h.lb x r.xn r.kx
 have h3 := cnt_le n st
 have h4 := hE a r.mem
 show wrap64 (sm st x + a.f2) = sm st x + a.f2
 exact wrap_small (by omega) (by omega)
theorem Core.wrapT (h : Core n s E st P tm T) (hP : P ≤ 3900000000) (r : Raises n E st x t a) : wrap64 (st.steps.getD x 0 + 1) = sp st x + 1 := by
 have h1 := (h.wlen x r.xn r.kx).1
 have h2 := h.stp x r.xn r.kx
 show wrap64 (sp st x + 1) = sp st x + 1
 exact wrap_small (by omega) (by omega)
theorem kn_up (hl : Lens n st) (r : Raises n E st x t a) (v : Nat) : kn (st.up x a) v = if v = t then true else kn st v := by
 have ht : a.f1.toNat = t := by have := r.f1; omega
 show (st.known.set a.f1.toNat true).getD v false = _
 rw [ht, gset _ _ _ _ _ (by have := hl.known; have := r.tn; omega)]
 rfl
theorem sm_up (h : Core n s E st P tm T) (hn : n ≤ 1200) (hE : ArcsOk n E) (r : Raises n E st x t a) (v : Nat) : sm (st.up x a) v = if v = t then sm st x + a.f2 else sm st v := by
 have ht : a.f1.toNat = t := by have := r.f1; omega
 show (st.sum.set a.f1.toNat (wrap64 (st.sum.getD x 0 + a.f2))).getD v 0 = _
 rw [ht, gset _ _ _ _ _ (by have := h.len.sum; have := r.tn; omega), h.wrapS hn hE r]
 rfl
theorem sp_up (h : Core n s E st P tm T) (hP : P ≤ 3900000000) (r : Raises n E st x t a) (v : Nat) : sp (st.up x a) v = if v = t then sp st x + 1 else sp st v := by
 have ht : a.f1.toNat = t := by have := r.f1; omega
 show (st.steps.set a.f1.toNat (wrap64 (st.steps.getD x 0 + 1))).getD v 0 = _
 rw [ht, gset _ _ _ _ _ (by have := h.len.steps; have := r.tn; omega), h.wrapT hP r]
 rfl
theorem lst_up (hl : Lens n st) (r : Raises n E st x t a) (v : Nat) : lst (st.up x a).last v = if v = t then a else lst st.last v := by
 have ht : a.f1.toNat = t := by have := r.f1; omega
 show (st.last.set a.f1.toNat a).getD v z105 = _
 rw [ht, gset _ _ _ _ _ (by have := hl.last; have := r.tn; omega)]
 rfl
theorem Lens.up (hl : Lens n st) : Lens n (st.up x a) := ⟨by simp [FSt.up, hl.sum], by simp [FSt.up, hl.known], by simp [FSt.up, hl.last], hl.waits, by simp [FSt.up, hl.steps]⟩
theorem Core.par_up (h : Core n s E st P tm T) (hn : n ≤ 1200) (hE : ArcsOk n E) (r : Raises n E st x t a) : ParOk n E (st.up x a) (fun v => if v = t then T else tm v) := by
 intro v hv hk hp
 rw [lst_up h.len r] at hp ⊢
 have nxu : nx (st.up x a).last v = if v = t then x else nx st.last v := by
  unfold nx
  rw [lst_up h.len r]
  by_cases e : v = t
  ·rw [if_pos e, if_pos e, r.f0]; omega
  ·rw [if_neg e, if_neg e]
 rw [nxu]
 simp only [kn_up h.len r, sm_up h hn hE r] at hk ⊢
 by_cases e : v = t
 ·subst e
  simp only [if_true] at hp ⊢
  refine ⟨r.mem, r.f1, ?_, ?_⟩
  ·split
   ·rfl
   ·exact r.kx
  ·by_cases e2 : x = v
   ·subst e2
    have := r.up r.kx
    simp only [if_true]
    left
    omega
   ·simp only [if_neg e2]
    right
    exact ⟨trivial, h.tmT x⟩
 ·simp only [if_neg e] at hp hk ⊢
  obtain ⟨h1, h2, h3, h4⟩ := h.par v hv hk hp
  refine ⟨h1, h2, ?_, ?_⟩
  ·split
   ·rfl
   ·exact h3
  ·by_cases e2 : nx st.last v = t
   ·rw [if_pos e2]
    left
    rw [e2] at h3 h4
    have := r.up h3
    omega
   ·rw [if_neg e2, if_neg e2]
    exact h4
def tot (l : List S105) : Int := (l.map fun a => a.f2).sum
theorem tot_cons (a : S105) (l : List S105) : tot (a :: l) = a.f2 + tot l := by simp [tot]
theorem par_chain (hpar : ParOk n E st tm) (G : Nat → Prop) (hG : ∀ v, G v → v ≤ n ∧ kn st v = true) (hgood : Good n st.last G) : ∀ (i v : Nat), G v → (∀ j, j < i → (lst st.last (it (nx st.last) j v)).f3 ≠ -2) →
  (sm st v < sm st (it (nx st.last) i v) + tot (chainL st.last i v) ∨ (sm st v = sm st (it (nx st.last) i v) + tot (chainL st.last i v) ∧ (i = 0 ∨ tm (it (nx st.last) i v) < tm v)))
 | 0, v, _, _ => .inr ⟨by simp [it, chainL, tot], .inl rfl⟩
 | i + 1, v, hv, hp => by
  obtain ⟨h1, h2⟩ := hG v hv
  obtain ⟨_, _, _, h4⟩ := hpar v h1 h2 (hp 0 (by omega))
  have hnx := (hgood.next v hv (hp 0 (by omega))).2
  have ih := par_chain hpar G hG hgood i (nx st.last v) hnx (fun j hj => hp (j + 1) (by omega))
  rw [it, chainL, tot_cons]
  rcases h4 with h4 | ⟨h4, h5⟩
  ·rcases ih with ih | ⟨ih, _⟩
   ·left; omega
   ·left; omega
  ·rcases ih with ih | ⟨ih, ih2⟩
   ·left; omega
   ·right
    refine ⟨by omega, .inr ?_⟩
    rcases ih2 with ih2 | ih2
    ·subst ih2
     exact h5
    ·omega
theorem chain_mem (hpar : ParOk n E st tm) (G : Nat → Prop) (hG : ∀ v, G v → v ≤ n ∧ kn st v = true) (hgood : Good n st.last G) : ∀ (i v : Nat), G v → (∀ j, j < i → (lst st.last (it (nx st.last) j v)).f3 ≠ -2) → ∀ a ∈ chainL st.last i v, a ∈ E
 | 0, v, _, _, a, ha => by cases ha
 | i + 1, v, hv, hp, a, ha => by
  rw [chainL] at ha
  rcases List.mem_cons.1 ha with rfl | ha
  ·exact (hpar v (hG v hv).1 (hG v hv).2 (hp 0 (by omega))).1
  ·exact chain_mem hpar G hG hgood i (nx st.last v) (hgood.next v hv (hp 0 (by omega))).2 (fun j hj => hp (j + 1) (by omega)) a ha
theorem tot_le (hE : ArcsOk n E) : ∀ (l : List S105), (∀ a ∈ l, a ∈ E) → tot l ≤ 1000 * (l.length : Int) := by
 intro l
 induction l with
 | nil => intro _; simp [tot]
 | cons a l ih =>
  intro h
  have h1 := hE a (h a List.mem_cons_self)
  have h2 := ih (fun b hb => h b (List.mem_cons_of_mem _ hb))
  rw [tot_cons, List.length_cons]
  omega
structure LoopOk (n : Nat) (E : List S105) (s : Nat) (l : List S105) : Prop where
 ex : ∃ (last : List S105) (m x : Nat), l = chainL last m x ∧ 1 ≤ m ∧ it (nx last) m x = x ∧ (∀ i, i < m → lst last (it (nx last) i x) ∈ E ∧ (lst last (it (nx last) i x)).f1 = (it (nx last) i x : Nat)) ∧ ∃ d, Walk E s x d
 pos : 0 < tot l
theorem good_of (hE : ArcsOk n E) (hl : Lens n st) (hpar : ParOk n E st tm) : Good n st.last (fun v => v ≤ n ∧ kn st v = true) :=
 ⟨hl.last, fun v hv => hv.1, fun v hv hp => by
  obtain ⟨h1, h2, h3, _⟩ := hpar v hv.1 hv.2 hp
  have h4 := hE _ h1
  exact ⟨h4.1, by unfold nx; omega, h3⟩⟩
theorem walk_up (h : Core n s E st P tm T) (hn : n ≤ 1200) (hE : ArcsOk n E) (r : Raises n E st x t a) (v : Nat) (hv : v ≤ n) (hk : kn (st.up x a) v = true) : Walk E s v (sm (st.up x a) v) := by
 rw [sm_up h hn hE r]
 by_cases e : v = t
 ·rw [if_pos e, e]
  exact .snoc (h.walk x r.xn r.kx) r.mem r.f0 r.f1
 ·rw [if_neg e]
  rw [kn_up h.len r, if_neg e] at hk
  exact h.walk v hv hk
theorem Core.loops (h : Core n s E st P tm T) (hn : n ≤ 1200) (hP : P ≤ 3900000000) (hE : ArcsOk n E) (r : Raises n E st x t a) (k : Nat) (hk : 2 * n + 10 ≤ k) :
  (t ≠ s ∧ sm (st.up x a) t ≤ 1000 * (n : Int) ∧ graph_loops.f k (st.up x a).last (t : Int) (n : Int) = some []) ∨ ∃ l, l ≠ [] ∧ LoopOk n E s l ∧ graph_loops.f k (st.up x a).last (t : Int) (n : Int) = some l := by
 have hpar := h.par_up hn hE r
 have hl : Lens n (st.up x a) := h.len.up
 have hgood := good_of hE hl hpar
 have hG : ∀ v, (fun v => v ≤ n ∧ kn (st.up x a) v = true) v → v ≤ n ∧ kn (st.up x a) v = true := fun v hv => hv
 have hkt : kn (st.up x a) t = true := by rw [kn_up h.len r, if_pos rfl]
 have hs : ∀ v, v ≤ n → kn (st.up x a) v = true → (lst (st.up x a).last v).f3 = -2 → v = s ∧ t ≠ s := by
  intro v hv hkv hp
  rw [lst_up h.len r] at hp
  by_cases e : v = t
  ·rw [if_pos e] at hp
   exact absurd hp (hE a r.mem).2.2.2.2.2.2
  ·rw [if_neg e] at hp
   rw [kn_up h.len r, if_neg e] at hkv
   by_cases e2 : v = s
   ·exact ⟨e2, fun e3 => e (e2.trans e3.symm)⟩
   ·exact absurd hp (h.pres v hv hkv e2)
 rcases loops_spec n hn (st.up x a).last _ hgood t k ⟨r.tn, hkt⟩ hk with ⟨i, hi, ha, hb, he⟩ | ⟨y, m, h1, hy, h3, h4, he⟩
 ·left
  have hgi := hgood.at_ i t ⟨r.tn, hkt⟩ hb
  obtain ⟨e1, e2⟩ := hs _ hgi.1 hgi.2 ha
  refine ⟨e2, ?_, he⟩
  have hch := par_chain hpar _ hG hgood i t ⟨r.tn, hkt⟩ hb
  have htot := tot_le hE _ (chain_mem hpar _ hG hgood i t ⟨r.tn, hkt⟩ hb)
  rw [chainL_length] at htot
  have hss : sm (st.up x a) (it (nx (st.up x a).last) i t) = 0 := by rw [e1, sm_up h hn hE r, if_neg (fun e => e2 e.symm)]; exact h.ss
  rw [hss] at hch
  rcases hch with hch | ⟨hch, _⟩ <;> omega
 ·right
  refine ⟨_, ?_, ⟨⟨(st.up x a).last, m, y, rfl, h1, h3, ?_, ?_⟩, ?_⟩, he⟩
  ·intro e
   have := congrArg List.length e
   rw [chainL_length] at this
   simp at this
   omega
  ·intro i hi
   have hgi := hgood.at_ i y hy (fun j hj => h4 j (by omega))
   obtain ⟨q1, q2, _, _⟩ := hpar _ hgi.1 hgi.2 (h4 i hi)
   exact ⟨q1, q2⟩
  ·exact ⟨_, walk_up h hn hE r y hy.1 hy.2⟩
  ·have hch := par_chain hpar _ hG hgood m y hy h4
   rw [h3] at hch
   rcases hch with hch | ⟨hch, hch2 | hch2⟩ <;> omega
theorem pot_up (h : Core n s E st P tm T) (hn : n ≤ 1200) (hE : ArcsOk n E) (r : Raises n E st x t a) (hub : sm (st.up x a) t ≤ 1000 * (n : Int)) : pot n (st.up x a) < pot n st := by
 have h1 := sumR_upd (m := n + 1) (t := t) (f := pv n (st.up x a)) (g := pv n st) (by have := r.tn; omega) (fun v _ hne => by
  unfold pv
  rw [kn_up h.len r, if_neg hne, sm_up h hn hE r, if_neg hne])
 have h2 : pv n (st.up x a) t < pv n st t := by
  unfold pv
  rw [kn_up h.len r, if_pos rfl, if_pos rfl]
  rw [sm_up h hn hE r, if_pos rfl] at hub ⊢
  by_cases e : kn st t = true
  ·rw [if_pos e]
   have := r.up e
   omega
  ·rw [if_neg e]
   have h3 := h.lb x r.xn r.kx
   have h4 := cnt_le n st
   have h5 := hE a r.mem
   have h6 : cnt n st + 1 ≤ n + 1 := by
    have h7 := sumR_upd (m := n + 1) (t := t) (f := fun v => if kn (st.up x a) v = true then 1 else 0) (g := fun v => if kn st v = true then 1 else 0) (by have := r.tn; omega) (fun v _ hne => by
     rw [kn_up h.len r, if_neg hne])
    rw [if_neg e, kn_up h.len r, if_pos rfl, if_pos rfl] at h7
    have h8 := cnt_le n (st.up x a)
    unfold cnt at h8 ⊢
    omega
   omega
 unfold pot
 omega
theorem cnt_up (h : Core n s E st P tm T) (r : Raises n E st x t a) : cnt n st ≤ cnt n (st.up x a) ∧ (kn st t = false → cnt n (st.up x a) = cnt n st + 1) := by
 have h7 := sumR_upd (m := n + 1) (t := t) (f := fun v => if kn (st.up x a) v = true then 1 else 0) (g := fun v => if kn st v = true then 1 else 0) (by have := r.tn; omega) (fun v _ hne => by
  rw [kn_up h.len r, if_neg hne])
 rw [kn_up h.len r, if_pos rfl, if_pos rfl] at h7
 unfold cnt
 by_cases e : kn st t = true
 ·rw [if_pos e] at h7
  exact ⟨by omega, fun h => by rw [e] at h; cases h⟩
 ·rw [if_neg e] at h7
  exact ⟨by omega, fun _ => by omega⟩
theorem Core.raised (h : Core n s E st P tm T) (hn : n ≤ 1200) (hP : P ≤ 3900000000) (hE : ArcsOk n E) (r : Raises n E st x t a) (hts : t ≠ s) (hub : sm (st.up x a) t ≤ 1000 * (n : Int)) : Core n s E (st.up x a) P (fun v => if v = t then T else tm v) (T + 1) := by
 have hst : ¬ s = t := fun e => hts e.symm
 have hpot := pot_up h hn hE r hub
 have hcnt := cnt_up h r
 refine ⟨h.len.up, ?_, ?_, ?_, ?_, h.par_up hn hE r, walk_up h hn hE r, ?_, ?_, ?_, ?_, ?_⟩
 ·rw [kn_up h.len r, if_neg hst]; exact h.ks
 ·rw [sm_up h hn hE r, if_neg hst]; exact h.ss
 ·rw [lst_up h.len r, if_neg hst]; exact h.ls
 ·intro v hv hk hvs
  rw [lst_up h.len r]
  by_cases e : v = t
  ·rw [if_pos e]; exact (hE a r.mem).2.2.2.2.2.2
  ·rw [if_neg e]
   rw [kn_up h.len r, if_neg e] at hk
   exact h.pres v hv hk hvs
 ·intro v hv hk
  rw [sp_up h hP r, sm_up h hn hE r]
  by_cases e : v = t
  ·rw [if_pos e, if_pos e]
   have h1 := h.wlen x r.xn r.kx
   have h2 := hE a r.mem
   omega
  ·rw [if_neg e, if_neg e]
   rw [kn_up h.len r, if_neg e] at hk
   exact h.wlen v hv hk
 ·intro v hv hk
  by_cases e : v = t
  ·rw [e]; exact hub
  ·rw [sm_up h hn hE r, if_neg e]
   rw [kn_up h.len r, if_neg e] at hk
   exact h.ub v hv hk
 ·intro v hv hk
  rw [sm_up h hn hE r]
  by_cases e : v = t
  ·rw [if_pos e]
   have h1 := h.lb x r.xn r.kx
   have h2 := hE a r.mem
   cases hkt : kn st t with
   | false => have := hcnt.2 hkt; omega
   | true =>
    have h3 := r.up hkt
    have h4 := h.lb t r.tn hkt
    have := hcnt.1
    omega
  ·rw [if_neg e]
   rw [kn_up h.len r, if_neg e] at hk
   have := h.lb v hv hk
   have := hcnt.1
   omega
 ·intro v hv hk
  rw [sp_up h hP r]
  by_cases e : v = t
  ·rw [if_pos e]
   have := h.stp x r.xn r.kx
   omega
  ·rw [if_neg e]
   rw [kn_up h.len r, if_neg e] at hk
   have := h.stp v hv hk
   omega
 ·intro v
  split
  ·omega
  ·have := h.tmT v; omega
end
def Done (st : FSt) (a : S105) : Prop := kn st a.f1.toNat = true ∧ sm st a.f0.toNat + a.f2 ≤ sm st a.f1.toNat
structure Queue (n : Nat) (st : FSt) (q : List Int) : Prop where
 wq : ∀ v, v ≤ n → wt st v = true → (v : Int) ∈ q
 qk : ∀ y ∈ q, ∃ v : Nat, y = (v : Int) ∧ v ≤ n ∧ kn st v = true
structure Mid (n s : Nat) (E : List S105) (st : FSt) (q : List Int) (P : Nat) (tm : Nat → Nat) (T x : Nat) (L : List S105) : Prop where
 core : Core n s E st P tm T
 queue : Queue n st q
 sat : ∀ v, v ≤ n → v ≠ x → kn st v = true → wt st v = false → ∀ a ∈ E, a.f0 = v → Done st a
 kx : kn st x = true
 satx : wt st x = true ∨ ∀ a ∈ E, a.f0 = x → a ∈ L ∨ Done st a
structure Head (n s : Nat) (E : List S105) (st : FSt) (q : List Int) (P : Nat) (tm : Nat → Nat) (T : Nat) : Prop where
 core : Core n s E st P tm T
 queue : Queue n st q
 sat : ∀ v, v ≤ n → kn st v = true → wt st v = false → ∀ a ∈ E, a.f0 = v → Done st a
section
variable {n s : Nat} {E : List S105} {st : FSt} {P : Nat} {tm : Nat → Nat} {T x t : Nat} {a : S105} {q : List Int}
theorem Core.waits (h : Core n s E st P tm T) (ws : List Bool) (hw : ws.length = n + 1) : Core n s E { st with waits := ws } P tm T :=
 { len := { sum := h.len.sum, known := h.len.known, last := h.len.last, waits := hw, steps := h.len.steps }, ks := h.ks, ss := h.ss, ls := h.ls, pres := h.pres, par := h.par, walk := h.walk, wlen := h.wlen, ub := h.ub, lb := h.lb, stp := h.stp, tmT := h.tmT }
theorem Done.up (h : Core n s E st P tm T) (hn : n ≤ 1200) (hE : ArcsOk n E) (r : Raises n E st x t a) {b : S105} (hb : Done st b) (hne : b.f0.toNat ≠ t) : Done (st.up x a) b := by
 unfold Done
 rw [kn_up h.len r, sm_up h hn hE r, sm_up h hn hE r, if_neg hne]
 by_cases e : b.f1.toNat = t
 ·rw [if_pos e, if_pos e]
  obtain ⟨h1, h2⟩ := hb
  rw [e] at h1 h2
  have := r.up h1
  exact ⟨rfl, by omega⟩
 ·rw [if_neg e, if_neg e]
  exact hb
theorem done_self (h : Core n s E st P tm T) (hn : n ≤ 1200) (hE : ArcsOk n E) (r : Raises n E st x t a) (hne : x ≠ t) : Done (st.up x a) a := by
 have h0 : a.f0.toNat = x := by have := r.f0; omega
 have h1 : a.f1.toNat = t := by have := r.f1; omega
 unfold Done
 rw [h0, h1, kn_up h.len r, sm_up h hn hE r, sm_up h hn hE r, if_pos rfl, if_pos rfl, if_neg hne]
 exact ⟨rfl, Int.le_refl _⟩
def RelaxPost (n s : Nat) (E : List S105) (st : FSt) (q : List Int) (P x : Nat) : List S105 ⊕ (FSt × List Int) → Prop
 | .inl l => l ≠ [] ∧ LoopOk n E s l
 | .inr p => (∃ tm T, Mid n s E p.1 p.2 P tm T x []) ∧ (pot n p.1 < pot n st ∨ (pot n p.1 = pot n st ∧ p.2 = q))
theorem relax_spec (hn : n ≤ 1200) (hP : P ≤ 3900000000) (hE : ArcsOk n E) (k : Nat) (hk : 2 * n + 10 ≤ k) (hx : x ≤ n) : ∀ (L : List S105) (st : FSt) (q : List Int) (tm : Nat → Nat) (T : Nat), (∀ a ∈ L, a ∈ E ∧ a.f0 = x) → Mid n s E st q P tm T x L →
  ∃ r, relax k (n : Int) (s : Int) x L st q = some r ∧ RelaxPost n s E st q P x r := by
 intro L
 induction L with
 | nil => intro st q tm T _ hm; exact ⟨_, rfl, ⟨tm, T, hm⟩, .inr ⟨rfl, rfl⟩⟩
 | cons a L ih =>
  intro st q tm T hL hm
  obtain ⟨ha, h0⟩ := hL a List.mem_cons_self
  have hL2 := fun b hb => hL b (List.mem_cons_of_mem _ hb)
  have hb := hE a ha
  obtain ⟨a0, a1, aw, ab⟩ := a
  dsimp only at h0 hb
  obtain ⟨t, rfl⟩ := Int.eq_ofNat_of_zero_le hb.2.2.1
  have htn : t ≤ n := by omega
  rw [relax_cons]
  have hw : wrap64 (st.sum.getD x 0 + aw) = sm st x + aw := by
   have h1 := hm.core.ub x hx hm.kx
   have h2 := hm.core.lb x hx hm.kx
   have h3 := cnt_le n st
   show wrap64 (sm st x + aw) = sm st x + aw
   exact wrap_small (by omega) (by omega)
  by_cases hc : st.known.getD t false = true ∧ wrap64 (st.sum.getD x 0 + aw) ≤ st.sum.getD t 0
  ·rw [if_pos hc]
   have hd : Done st ⟨a0, (t : Int), aw, ab⟩ := by
    refine ⟨hc.1, ?_⟩
    have h1 := hc.2
    rw [hw] at h1
    dsimp only
    rw [h0, Int.toNat_natCast]
    exact h1
   refine ih st q tm T hL2 { hm with satx := ?_ }
   rcases hm.satx with h1 | h1
   ·exact .inl h1
   ·right
    intro b hb1 hb2
    rcases h1 b hb1 hb2 with h2 | h2
    ·rcases List.mem_cons.1 h2 with rfl | h2
     ·exact .inr hd
     ·exact .inl h2
    ·exact .inr h2
  ·rw [if_neg hc]
   have r : Raises n E st x t ⟨a0, (t : Int), aw, ab⟩ := ⟨hx, htn, hm.kx, ha, h0, rfl, fun hkt => by
    have h1 : ¬ wrap64 (st.sum.getD x 0 + aw) ≤ st.sum.getD t 0 := fun h2 => hc ⟨hkt, h2⟩
    rw [hw] at h1
    show sm st t < sm st x + aw
    have h2 : ¬ sm st x + aw ≤ sm st t := h1
    omega⟩
   have key : t ≠ s → sm (st.up x ⟨a0, (t : Int), aw, ab⟩) t ≤ 1000 * (n : Int) → ∃ r, (if (st.up x ⟨a0, (t : Int), aw, ab⟩).waits.getD t false = true then relax k (n : Int) (s : Int) x L (st.up x ⟨a0, (t : Int), aw, ab⟩) q
     else relax k (n : Int) (s : Int) x L { st.up x ⟨a0, (t : Int), aw, ab⟩ with waits := (st.up x ⟨a0, (t : Int), aw, ab⟩).waits.set t true } (q ++ [(t : Int)])) = some r ∧ RelaxPost n s E st q P x r := by
    intro hts hub
    have hcore := hm.core.raised hn hP hE r hts hub
    have hpot := pot_up hm.core hn hE r hub
    have hkk : ∀ v, kn st v = true → kn (st.up x ⟨a0, (t : Int), aw, ab⟩) v = true := fun v hv => by
     rw [kn_up hm.core.len r]
     split
     ·rfl
     ·exact hv
    have hsat : ∀ v, v ≤ n → v ≠ x → v ≠ t → kn (st.up x ⟨a0, (t : Int), aw, ab⟩) v = true → wt st v = false → ∀ b ∈ E, b.f0 = v → Done (st.up x ⟨a0, (t : Int), aw, ab⟩) b := by
     intro v hv hvx hvt hkv hwv b hbE hb0
     rw [kn_up hm.core.len r, if_neg hvt] at hkv
     exact (hm.sat v hv hvx hkv hwv b hbE hb0).up hm.core hn hE r (by omega)
    have hsatx : x ≠ t → (wt st x = true ∨ ∀ b ∈ E, b.f0 = x → b ∈ L ∨ Done (st.up x ⟨a0, (t : Int), aw, ab⟩) b) := by
     intro hxt
     rcases hm.satx with h1 | h1
     ·exact .inl h1
     ·right
      intro b hb1 hb2
      rcases h1 b hb1 hb2 with h2 | h2
      ·rcases List.mem_cons.1 h2 with rfl | h2
       ·exact .inr (done_self hm.core hn hE r hxt)
       ·exact .inl h2
      ·exact .inr (h2.up hm.core hn hE r (by omega))
    have fin : ∀ (st2 : FSt) (q2 : List Int), pot n st2 = pot n (st.up x ⟨a0, (t : Int), aw, ab⟩) → (∃ r, relax k (n : Int) (s : Int) x L st2 q2 = some r ∧ RelaxPost n s E st2 q2 P x r) → ∃ r, relax k (n : Int) (s : Int) x L st2 q2 = some r ∧ RelaxPost n s E st q P x r := by
     rintro st2 q2 hp2 ⟨r2, hr2, hpost⟩
     refine ⟨r2, hr2, ?_⟩
     cases r2 with
     | inl l => exact hpost
     | inr p =>
      obtain ⟨h1, h2⟩ := hpost
      refine ⟨h1, .inl ?_⟩
      rcases h2 with h2 | ⟨h2, _⟩ <;> omega
    by_cases hwt : (st.up x ⟨a0, (t : Int), aw, ab⟩).waits.getD t false = true
    ·rw [if_pos hwt]
     have hwt2 : wt st t = true := hwt
     refine fin _ _ rfl (ih _ q _ _ hL2 ⟨hcore, ⟨hm.queue.wq, fun y hy => ?_⟩, ?_, hkk x hm.kx, ?_⟩)
     ·obtain ⟨v, e, hv, hkv⟩ := hm.queue.qk y hy
      exact ⟨v, e, hv, hkk v hkv⟩
     ·intro v hv hvx hkv hwv
      have hwv2 : wt st v = false := hwv
      exact hsat v hv hvx (fun e => by rw [e, hwt2] at hwv2; cases hwv2) hkv hwv2
     ·by_cases hxt : x = t
      ·left; rw [hxt]; exact hwt
      ·exact hsatx hxt
    ·rw [if_neg hwt]
     have hwv : ∀ v, wt { st.up x ⟨a0, (t : Int), aw, ab⟩ with waits := (st.up x ⟨a0, (t : Int), aw, ab⟩).waits.set t true } v = if v = t then true else wt st v := fun v => by
      show ((st.up x ⟨a0, (t : Int), aw, ab⟩).waits.set t true).getD v false = _
      rw [gset _ _ _ _ _ (by have := hcore.len.waits; omega)]
      rfl
     refine fin _ _ rfl (ih _ _ _ _ hL2 ⟨hcore.waits _ (by rw [List.length_set]; exact hcore.len.waits), ⟨fun v hv hw2 => ?_, fun y hy => ?_⟩, ?_, hkk x hm.kx, ?_⟩)
     ·rw [hwv] at hw2
      by_cases e : v = t
      ·rw [e]; simp
      ·rw [if_neg e] at hw2
       exact List.mem_append_left _ (hm.queue.wq v hv hw2)
     ·rcases List.mem_append.1 hy with hy | hy
      ·obtain ⟨v, e, hv, hkv⟩ := hm.queue.qk y hy
       exact ⟨v, e, hv, hkk v hkv⟩
      ·rw [List.mem_singleton] at hy
       exact ⟨t, hy, htn, by show kn (st.up x ⟨a0, (t : Int), aw, ab⟩) t = true; rw [kn_up hm.core.len r, if_pos rfl]⟩
     ·intro v hv hvx hkv hw2
      rw [hwv] at hw2
      by_cases e : v = t
      ·rw [if_pos e] at hw2; cases hw2
      ·rw [if_neg e] at hw2
       exact hsat v hv hvx e hkv hw2
     ·rw [hwv]
      by_cases hxt : x = t
      ·left; rw [if_pos hxt]
      ·rw [if_neg hxt]; exact hsatx hxt
   have hsp : (st.up x ⟨a0, (t : Int), aw, ab⟩).steps.getD t 0 = sp st x + 1 := by
    have := sp_up hm.core hP r t
    rw [if_pos rfl] at this
    exact this
   by_cases hcond : (t : Int) = (s : Int) ∨ (n : Int) < (st.up x ⟨a0, (t : Int), aw, ab⟩).steps.getD t 0
   ·rw [if_pos hcond]
    rcases hm.core.loops hn hP hE r k hk with ⟨h1, h2, h3⟩ | ⟨l, h1, h2, h3⟩
    ·rw [h3, Option.bind_some, List.isEmpty_nil, if_pos rfl]
     exact key h1 h2
    ·rw [h3, Option.bind_some, if_neg (by cases l with
      | nil => exact absurd rfl h1
      | cons _ _ => simp)]
     exact ⟨_, rfl, h1, h2⟩
   ·rw [if_neg hcond, Option.bind_some, List.isEmpty_nil, if_pos rfl]
    have hts : t ≠ s := fun e => hcond (.inl (by rw [e]))
    have hle : ¬ (n : Int) < sp st x + 1 := fun e => hcond (.inr (by rw [hsp]; exact e))
    refine key hts ?_
    have h1 := hm.core.wlen x hx hm.kx
    rw [sm_up hm.core hn hE r, if_pos rfl]
    dsimp only
    omega
def FarPost (n s : Nat) (E : List S105) : FRes → Prop
 | .loop l => l ≠ [] ∧ LoopOk n E s l
 | .done st => ∃ P tm T, Head n s E st [] P tm T
theorem farL_spec (hn : n ≤ 1200) (hP : P ≤ 3900000000) (hE : ArcsOk n E) (rows : List (List S105)) (hrow : ∀ v, v ≤ n → ∀ a, a ∈ rows.getD v [] ↔ (a ∈ E ∧ a.f0 = v)) :
  ∀ (m : Nat) (l : Nat) (st : FSt) (q : List Int) (tm : Nat → Nat) (T : Nat), pot n st = m → q.length = l → Head n s E st q P tm T → ∃ R, Ev (fun k => farL (n : Int) (s : Int) rows k st q) R ∧ FarPost n s E R := by
 intro m
 induction m using Nat.strongRecOn with
 | ind m ihm =>
 intro l
 induction l using Nat.strongRecOn with
 | ind l ihl =>
 intro st q tm T hm hl h
 cases q with
 | nil => exact ⟨.done st, ⟨1, fun k hk => by obtain ⟨k, rfl⟩ : ∃ j, k = j + 1 := ⟨k - 1, by omega⟩; rfl⟩, P, tm, T, h⟩
 | cons y q =>
  obtain ⟨x, rfl, hx, hkx⟩ := h.queue.qk y List.mem_cons_self
  have hwv : ∀ v, wt { st with waits := st.waits.set x false } v = if v = x then false else wt st v := fun v => by
   show (st.waits.set x false).getD v false = _
   rw [gset _ _ _ _ _ (by have := h.core.len.waits; omega)]
   rfl
  have hmid : Mid n s E { st with waits := st.waits.set x false } q P tm T x (rows.getD x []) := by
   refine ⟨h.core.waits _ (by rw [List.length_set]; exact h.core.len.waits), ⟨fun v hv hw => ?_, fun z hz => h.queue.qk z (List.mem_cons_of_mem _ hz)⟩, ?_, hkx, .inr fun a ha h0 => .inl ((hrow x hx a).2 ⟨ha, h0⟩)⟩
   ·rw [hwv] at hw
    by_cases e : v = x
    ·rw [if_pos e] at hw; cases hw
    ·rw [if_neg e] at hw
     rcases List.mem_cons.1 (h.queue.wq v hv hw) with h2 | h2
     ·exact absurd (by omega) e
     ·exact h2
   ·intro v hv hvx hkv hw
    rw [hwv, if_neg hvx] at hw
    exact h.sat v hv hkv hw
  obtain ⟨r, hr, hpost⟩ := relax_spec hn hP hE (2 * n + 10) (Nat.le_refl _) hx (rows.getD x []) _ q tm T (fun a ha => (hrow x hx a).1 ha) hmid
  have hrk : ∀ k, 2 * n + 10 ≤ k → relax k (n : Int) (s : Int) x (rows.getD x []) { st with waits := st.waits.set x false } q = some r := fun k hk => at_rounds (fun k => relax.mono _ _ _ k _ _ _) hk hr
  cases r with
  | inl lp =>
   refine ⟨.loop lp, ⟨2 * n + 11, fun k hk => ?_⟩, hpost⟩
   obtain ⟨k, rfl⟩ : ∃ j, k = j + 1 := ⟨k - 1, by omega⟩
   simp only [farL, Int.toNat_natCast]
   rw [hrk k (by omega)]
   rfl
  | inr p =>
   obtain ⟨⟨tm2, T2, hm2⟩, hdec⟩ := hpost
   have hh : Head n s E p.1 p.2 P tm2 T2 := ⟨hm2.core, hm2.queue, fun v hv hkv hw a ha h0 => by
    by_cases e : v = x
    ·subst e
     rcases hm2.satx with h1 | h1
     ·rw [h1] at hw; cases hw
     ·rcases h1 a ha h0 with h2 | h2
      ·cases h2
      ·exact h2
    ·exact hm2.sat v hv e hkv hw a ha h0⟩
   have hps : pot n { st with waits := st.waits.set x false } = pot n st := rfl
   have hrec : ∃ R, Ev (fun k => farL (n : Int) (s : Int) rows k p.1 p.2) R ∧ FarPost n s E R := by
    rcases hdec with h1 | ⟨h1, h2⟩
    ·exact ihm _ (by omega) _ p.1 p.2 tm2 T2 rfl rfl hh
    ·refine ihl p.2.length ?_ p.1 p.2 tm2 T2 (by omega) rfl hh
     rw [h2]
     simp only [List.length_cons] at hl
     omega
   obtain ⟨R, ⟨N, hN⟩, hR⟩ := hrec
   refine ⟨R, ⟨max (2 * n + 11) (N + 1), fun k hk => ?_⟩, hR⟩
   obtain ⟨k, rfl⟩ : ∃ j, k = j + 1 := ⟨k - 1, by omega⟩
   simp only [farL, Int.toNat_natCast]
   rw [hrk k (by omega)]
   exact hN k (by omega)
theorem gets_rep {α : Type} (m v : Nat) (d : α) : (List.replicate m d).getD v d = d := by
 rw [List.getD_eq_getElem?_getD, List.getElem?_replicate]
 split <;> rfl
theorem far_spec (hn : n ≤ 1200) (hE : ArcsOk n E) (hs : s ≤ n) (rows : List (List S105)) (hrow : ∀ v, v ≤ n → ∀ a, a ∈ rows.getD v [] ↔ (a ∈ E ∧ a.f0 = v)) : ∃ R, Ev (fun k => far k n (s : Int) rows) R ∧ FarPost n s E R := by
 have hk : ∀ v, kn (farInit n s) v = if v = s then true else false := fun v => by
  show ((List.replicate (n + 1) false).set (s : Int).toNat true).getD v false = _
  rw [Int.toNat_natCast, gset _ _ _ _ _ (by rw [List.length_replicate]; omega), gets_rep]
 have hks : ∀ v, kn (farInit n s) v = true → v = s := fun v hv => by
  rw [hk] at hv
  by_cases e : v = s
  ·exact e
  ·rw [if_neg e] at hv; cases hv
 have hsm : ∀ v, sm (farInit n s) v = 0 := fun v => gets_rep _ _ _
 have hsp : ∀ v, sp (farInit n s) v = 0 := fun v => gets_rep _ _ _
 have hlst : ∀ v, v ≤ n → lst (farInit n s).last v = ⟨0, 0, 0, -2⟩ := fun v hv => by
  show (List.replicate (n + 1) (⟨0, 0, 0, -2⟩ : S105)).getD v z105 = _
  rw [List.getD_eq_getElem?_getD, List.getElem?_replicate, if_pos (by omega)]
  rfl
 have hpot : pot n (farInit n s) ≤ 3900000000 := by
  have h1 := sumR_le (m := n + 1) (c := 2 * 1000 * 1200 + 2001) (f := pv n (farInit n s)) (fun v _ => by
   unfold pv
   rw [hsm]
   split <;> omega)
  have h2 : (n + 1) * (2 * 1000 * 1200 + 2001) ≤ 1201 * (2 * 1000 * 1200 + 2001) := Nat.mul_le_mul_right _ (by omega)
  unfold pot
  omega
 have hcore : Core n s E (farInit n s) (pot n (farInit n s)) (fun _ => 0) 1 := by
  refine ⟨⟨by simp [farInit], by simp [farInit], by simp [farInit], by simp [farInit], by simp [farInit]⟩, by rw [hk, if_pos rfl], hsm s, by rw [hlst s hs], fun v _ hv hne => absurd (hks v hv) hne, ?_, ?_, ?_, ?_, ?_, ?_, fun v => Nat.one_pos⟩
  ·intro v hv hkv hp
   rw [hlst v hv] at hp
   exact absurd rfl hp
  ·intro v hv hkv
   rw [hks v hkv, hsm]
   exact .nil
  ·intro v hv hkv
   rw [hsp, hsm]
   omega
  ·intro v hv hkv
   rw [hsm]
   omega
  ·intro v hv hkv
   rw [hsm]
   omega
  ·intro v hv hkv
   rw [hsp]
   omega
 have hwt : ∀ v, wt (farInit n s) v = false := fun v => gets_rep _ _ _
 have hmid : Mid n s E (farInit n s) [] (pot n (farInit n s)) (fun _ => 0) 1 s (rows.getD s []) :=
  ⟨hcore, ⟨fun v _ hw => (by rw [hwt] at hw; cases hw), fun y hy => (by cases hy)⟩, fun v _ hne hkv => absurd (hks v hkv) hne, hcore.ks, .inr fun a ha h0 => .inl ((hrow s hs a).2 ⟨ha, h0⟩)⟩
 obtain ⟨r, hr, hpost⟩ := relax_spec hn hpot hE (2 * n + 10) (Nat.le_refl _) hs (rows.getD s []) _ [] _ _ (fun a ha => (hrow s hs a).1 ha) hmid
 have hrk : ∀ k, 2 * n + 10 ≤ k → relax k (n : Int) (s : Int) s (rows.getD s []) (farInit n s) [] = some r := fun k hk => at_rounds (fun k => relax.mono _ _ _ k _ _ _) hk hr
 have hini : ({ farInit n s with waits := (farInit n s).waits.set s false } : FSt) = farInit n s := by
  unfold farInit
  simp
 cases r with
 | inl lp =>
  refine ⟨.loop lp, ⟨2 * n + 11, fun k hk => ?_⟩, hpost⟩
  obtain ⟨k, rfl⟩ : ∃ j, k = j + 1 := ⟨k - 1, by omega⟩
  simp only [far, farL, Int.toNat_natCast]
  rw [hini, hrk k (by omega)]
  rfl
 | inr p =>
  obtain ⟨⟨tm2, T2, hm2⟩, hdec⟩ := hpost
  have hh : Head n s E p.1 p.2 (pot n (farInit n s)) tm2 T2 := ⟨hm2.core, hm2.queue, fun v hv hkv hw a ha h0 => by
   by_cases e : v = s
   ·subst e
    rcases hm2.satx with h1 | h1
    ·rw [h1] at hw; cases hw
    ·rcases h1 a ha h0 with h2 | h2
     ·cases h2
     ·exact h2
   ·exact hm2.sat v hv e hkv hw a ha h0⟩
  obtain ⟨R, ⟨N, hN⟩, hR⟩ := farL_spec hn hpot hE rows hrow _ _ p.1 p.2 tm2 T2 rfl rfl hh
  refine ⟨R, ⟨max (2 * n + 11) (N + 1), fun k hk => ?_⟩, hR⟩
  obtain ⟨k, rfl⟩ : ∃ j, k = j + 1 := ⟨k - 1, by omega⟩
  simp only [far, farL, Int.toNat_natCast]
  rw [hini, hrk k (by omega)]
  exact hN k (by omega)
end
structure Closed (E : List S105) (s : Nat) (is : Nat → Bool) (d : Nat → Int) : Prop where
 start : is s = true
 zero : 0 ≤ d s
 arc : ∀ a ∈ E, is a.f0.toNat = true → is a.f1.toNat = true ∧ d a.f0.toNat + a.f2 ≤ d a.f1.toNat
inductive Tight (E : List S105) (d : Nat → Int) (s : Nat) : Nat → Nat → Prop
 | nil : Tight E d s 0 s
 | snoc {m x t : Nat} {a : S105} (h : Tight E d s m x) (ha : a ∈ E) (hx : a.f0 = x) (ht : a.f1 = t) (hd : d t = d x + a.f2) : Tight E d s (m + 1) t
structure Longest (n : Nat) (E : List S105) (s : Nat) (is : Nat → Bool) (d : Nat → Int) : Prop where
 closed : Closed E s is d
 zero : d s = 0
 walk : ∀ v, v ≤ n → is v = true → Walk E s v (d v)
 tight : ∀ v, v ≤ n → is v = true → ∃ m, m ≤ n ∧ Tight E d s m v
section
variable {n s : Nat} {E : List S105} {is : Nat → Bool} {d : Nat → Int}
theorem Closed.walk (h : Closed E s is d) {v : Nat} {c : Int} (hw : Walk E s v c) : is v = true ∧ c ≤ d v := by
 induction hw with
 | nil => exact ⟨h.start, h.zero⟩
 | @snoc x t c a hw ha hx ht ih =>
  have h1 := h.arc a ha (by rw [hx, Int.toNat_natCast]; exact ih.1)
  rw [hx, ht, Int.toNat_natCast, Int.toNat_natCast] at h1
  exact ⟨h1.1, by have := ih.2; have := h1.2; omega⟩
theorem Closed.chain (h : Closed E s is d) (last : List S105) : ∀ (m x : Nat), is (it (nx last) m x) = true → (∀ i, i < m → lst last (it (nx last) i x) ∈ E ∧ (lst last (it (nx last) i x)).f1 = (it (nx last) i x : Nat)) →
  is x = true ∧ d (it (nx last) m x) + tot (chainL last m x) ≤ d x
 | 0, x, hx, _ => ⟨hx, by simp [it, chainL, tot]⟩
 | m + 1, x, hx, hp => by
  obtain ⟨h1, h2⟩ := h.chain last m (nx last x) hx (fun i hi => hp (i + 1) (by omega))
  obtain ⟨h3, h4⟩ := hp 0 (by omega)
  have h5 := h.arc _ h3 (show is (nx last x) = true from h1)
  have e : (lst last (it (nx last) 0 x)).f1.toNat = x := by rw [h4, Int.toNat_natCast]; rfl
  rw [e] at h5
  refine ⟨h5.1, ?_⟩
  rw [it, chainL, tot_cons]
  have h6 : d (nx last x) + (lst last x).f2 ≤ d x := h5.2
  omega
theorem Closed.no_loop (h : Closed E s is d) {l : List S105} (hl : LoopOk n E s l) : False := by
 obtain ⟨last, m, x, rfl, h1, h2, h3, c, hw⟩ := hl.ex
 have hx := (h.walk hw).1
 have h4 := (h.chain last m x (by rw [h2]; exact hx) h3).2
 rw [h2] at h4
 have := hl.pos
 omega
theorem Longest.unique (h : Longest n E s is d) {is2 : Nat → Bool} {d2 : Nat → Int} (h2 : Closed E s is2 d2) (hw2 : ∀ v, v ≤ n → is2 v = true → Walk E s v (d2 v)) : ∀ v, v ≤ n → is2 v = is v ∧ (is v = true → d2 v = d v) := by
 intro v hv
 cases e : is v with
 | true =>
  have h3 := h2.walk (h.walk v hv e)
  have h4 := h.closed.walk (hw2 v hv h3.1)
  exact ⟨h3.1, fun _ => by have := h3.2; have := h4.2; omega⟩
 | false =>
  refine ⟨?_, fun h => by cases h⟩
  cases e2 : is2 v with
  | false => rfl
  | true =>
   have := (h.closed.walk (hw2 v hv e2)).1
   rw [e] at this
   cases this
theorem Head.longest {st : FSt} {P : Nat} {tm : Nat → Nat} {T : Nat} (h : Head n s E st [] P tm T) (hn : n ≤ 1200) (hE : ArcsOk n E) (hs : s ≤ n) : Longest n E s (kn st) (sm st) := by
 have hwt : ∀ v, v ≤ n → wt st v = false := fun v hv => by
  cases e : wt st v with
  | false => rfl
  | true => exact absurd (h.queue.wq v hv e) (by simp)
 have hcl : Closed E s (kn st) (sm st) := ⟨h.core.ks, by rw [h.core.ss]; exact Int.le_refl _, fun a ha hk => by
  have h1 := hE a ha
  exact h.sat a.f0.toNat (by omega) hk (hwt _ (by omega)) a ha (by omega)⟩
 refine ⟨hcl, h.core.ss, fun v hv hk => h.core.walk v hv hk, ?_⟩
 intro v hv hk
 have hgood := good_of hE h.core.len h.core.par
 have hG : ∀ v, (fun v => v ≤ n ∧ kn st v = true) v → v ≤ n ∧ kn st v = true := fun v hv => hv
 rcases loops_spec n hn st.last _ hgood v (2 * n + 10) ⟨hv, hk⟩ (Nat.le_refl _) with ⟨i, hi, ha, hb, _⟩ | ⟨x, m, h1, hx, h3, h4, _⟩
 ·refine ⟨i, hi, ?_⟩
  have hend := hgood.at_ i v ⟨hv, hk⟩ hb
  have hes : it (nx st.last) i v = s := by
   by_cases e : it (nx st.last) i v = s
   ·exact e
   ·exact absurd ha (h.core.pres _ hend.1 hend.2 e)
  have key : ∀ (j u : Nat), u ≤ n → kn st u = true → it (nx st.last) j u = s → (∀ i2, i2 < j → (lst st.last (it (nx st.last) i2 u)).f3 ≠ -2) → Tight E (sm st) s j u := by
   intro j
   induction j with
   | zero =>
    intro u _ _ hu _
    have : u = s := hu
    rw [this]
    exact .nil
   | succ j ih =>
    intro u hu hku hj hp
    obtain ⟨p1, p2, p3, p4⟩ := h.core.par u hu hku (hp 0 (by omega))
    have hg := (hgood.next u ⟨hu, hku⟩ (hp 0 (by omega))).2
    have hf0 := (hgood.next u ⟨hu, hku⟩ (hp 0 (by omega))).1
    have ht := ih (nx st.last u) hg.1 hg.2 hj (fun i2 hi2 => hp (i2 + 1) (by omega))
    have he0 : (lst st.last u).f0 = ((nx st.last u : Nat) : Int) := by unfold nx; omega
    refine .snoc ht p1 he0 p2 ?_
    have h5 := hcl.arc _ p1 (by show kn st (nx st.last u) = true; exact p3)
    rw [p2, Int.toNat_natCast] at h5
    have h6 : sm st (nx st.last u) + (lst st.last u).f2 ≤ sm st u := h5.2
    rcases p4 with p4 | ⟨p4, _⟩ <;> omega
  exact key i v hv hk hes hb
 ·exfalso
  have hch := par_chain h.core.par _ hG hgood m x hx h4
  have h5 : ∀ i, i < m → lst st.last (it (nx st.last) i x) ∈ E ∧ (lst st.last (it (nx st.last) i x)).f1 = (it (nx st.last) i x : Nat) := fun i hi => by
   have hgi := hgood.at_ i x hx (fun j hj => h4 j (by omega))
   obtain ⟨q1, q2, _, _⟩ := h.core.par _ hgi.1 hgi.2 (h4 i hi)
   exact ⟨q1, q2⟩
  have h6 := (hcl.chain st.last m x (by rw [h3]; exact hx.2) h5).2
  rw [h3] at hch h6
  rcases hch with hch | ⟨hch, hch2 | hch2⟩ <;> omega
end
end
end Go.Proofs.Ytegejpcglabhbaa.G
