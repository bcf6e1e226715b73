/- Hand-made contracts: a search in a system's net; graph.solved, graph.Solve. -/
import Derived.Test.YtegejpcglabhbaaGHz
namespace Go.Proofs.Ytegejpcglabhbaa.G
open Go.RowKit Go.Proofs.YtegejpcglabhbaaW.PrintWords Go.Proofs.YtegejpcglabhbaaW.PrintLast Go.Proofs.YtegejpcglabhbaaW.PrintMore
set_option linter.unusedVariables false
set_option linter.unusedSimpArgs false

theorem encI_C {w : World} {b : Nat} {l : List Int} (h : w.heap[b]? = some (.cells (encI l) 3 (0, 0))) (hl : l.length ≤ 9223372036854775807) : Kd.C (Kd.int .i64) w (some ⟨b, 0, none⟩) l.length l :=
  ⟨rfl, hl, fun _ => ⟨⟨b, 0, none⟩, rfl, fun j p hj => ⟨[.int .i64 p], rfl, rfl, fun i u hu => by
    have hi : i = 0 := by have := (List.getElem?_eq_some_iff.1 hu).1; simp at this; exact this
    subst hi
    obtain ⟨hj1, hj2⟩ := List.getElem?_eq_some_iff.1 hj
    rw [add_plain]
    refine (blk_cell h _).trans ((show (encI l)[j * 1 + 0]? = (encI l)[j]? by simp).trans ((encI_get hj1).trans ?_))
    simp only [List.getElem?_cons_zero, Option.some.injEq] at hu
    rw [← hu, List.getD_eq_getElem?_getD, hj]
    rfl⟩⟩⟩
theorem encI_F {w : World} {b : Nat} {l : List Int} {ok : Nat → Prop} (h : w.heap[b]? = some (.cells (encI l) 3 (0, 0))) (hl : l.length ≤ 9223372036854775807) (hok : ok b) : Kd.F (Kd.int .i64) w ok (some ⟨b, 0, none⟩) l.length l :=
  fun W' hW => encI_C ((hW b hok (blk_lt h)).trans h) hl
theorem foldl_mem (l : List S105) : ∀ (rows : List (List S105)) (m : List S105), (∀ r ∈ rows, ∀ a ∈ r, a ∈ m) → ∀ r ∈ l.foldl addArc rows, ∀ a ∈ r, a ∈ m ++ l := by
  induction l with
  | nil => intro rows m h r hr a ha; simpa using h r hr a ha
  | cons x l ih =>
    intro rows m h r hr a ha
    rw [List.foldl_cons] at hr
    have := ih (addArc rows x) (m ++ [x]) (fun s hs b hb => by
      unfold addArc at hs
      rcases List.mem_or_eq_of_mem_set hs with hs | hs
      · exact List.mem_append_left _ (h s hs b hb)
      · subst hs
        rcases List.mem_append.1 hb with hb | hb
        · refine List.mem_append_left _ ?_
          rw [List.getD_eq_getElem?_getD] at hb
          cases hq : rows[x.f0.toNat]? with
          | none => rw [hq] at hb; cases hb
          | some s2 => rw [hq] at hb; exact h s2 (List.mem_of_getElem? hq) b hb
        · exact List.mem_append_right _ hb) r hr a ha
    simpa [List.append_assoc] using this
theorem rowsOf_mem {N : Nat} {l : List S105} {r : List S105} (hr : r ∈ rowsOf N l) {a : S105} (ha : a ∈ r) : a ∈ l := by
  have := foldl_mem l (List.replicate N []) [] (fun s hs b hb => by
    rw [List.eq_of_mem_replicate hs] at hb
    cases hb) r hr a ha
  simpa using this
/-- Which indices a list of constraints has. -/
def Which (l : List S44) (which : List Int) : Prop := ∀ i ∈ which, 0 ≤ i ∧ i < l.length
theorem allArcs_mem {n : Nat} {l : List S44} {which : List Int} (hfit : ∀ c ∈ l, FitOk n c) (hwh : Which l which) {a : S105} (ha : a ∈ allArcs n l which) :
    0 ≤ a.f0 ∧ a.f0 ≤ n ∧ 0 ≤ a.f1 ∧ a.f1 ≤ n ∧ -1000 ≤ a.f2 ∧ a.f2 ≤ 1000 ∧ (a.f3 = -1 ∨ a.f3 ∈ which) := by
  rcases List.mem_append.1 ha with ha | ha
  · obtain ⟨v, hv, rfl⟩ := List.mem_map.1 ha
    have := List.mem_range.1 hv
    simp only [natArc]
    exact ⟨by omega, by omega, by omega, by omega, by omega, by omega, .inl trivial⟩
  · obtain ⟨i, hi, ha⟩ := List.mem_flatMap.1 ha
    have hw := hwh i hi
    have := arcs_mem (hfit _ (mem_rd44 hw.1 hw.2)) (Int.natCast_nonneg n) ha
    obtain ⟨h0, h1, h2, h3, h4, h5, h6⟩ := this
    exact ⟨h0, h1, h2, h3, h4, h5, .inr (h6 ▸ hi)⟩
theorem rows_arc {n : Nat} {l : List S44} {which : List Int} (hfit : ∀ c ∈ l, FitOk n c) (hwh : Which l which) : ∀ r ∈ rowsOf (n + 1) (allArcs n l which), ∀ a ∈ r, 0 ≤ a.f1 ∧ a.f1 ≤ n := fun r hr a ha => by
  have := allArcs_mem hfit hwh (rowsOf_mem hr ha)
  omega
/-- A search in the net of some of a system's constraints. -/
def search (k n : Nat) (l : List S44) (which : List Int) (start : Int) : Option FRes := far k n start (rowsOf (n + 1) (allArcs n l which))
/-- What is true of a valid system. -/
structure SysOk (n : Nat) (l : List S44) : Prop where
  n1 : n ≤ 1200
  len : l.length ≤ 3000
  fit : ∀ c ∈ l, FitOk n c
theorem valid_ok {n : Int} {l : List S44} (h : validB n l = true) : ∃ m : Nat, n = m ∧ SysOk m l := by
  simp only [validB, Bool.and_eq_true, decide_eq_true_eq, List.all_eq_true] at h
  obtain ⟨h0, h1, h2, h3⟩ := h
  obtain ⟨m, rfl⟩ := Int.eq_ofNat_of_zero_le h0
  exact ⟨m, rfl, by omega, h2, fun c hc => fit_ok (h3 c hc)⟩
theorem upTo_length (m : Nat) : (upTo m).length = m := by simp [upTo]
theorem which_upTo (l : List S44) : Which l (upTo l.length) := fun i hi => by
  obtain ⟨j, hj, rfl⟩ := List.mem_map.1 hi
  have := List.mem_range.1 hj
  omega
/-- made and then far. -/
theorem far_made (k n : Nat) (start : Int) (l : List S44) (which : List Int) (R : FRes) (hs : SysOk n l) (hwh : Which l which) (h : search k n l which start = some R) (hs0 : 0 ≤ start) (hs1 : start ≤ n) (g ob base : Nat) (vs : List Value) (w : World)
    (hg : w.heap[g]? = some (.cells #[.int .i64 (n : Int), .slice (some ⟨ob, 0, none⟩) (n + 1) (n + 1)] 103 (0, 0))) (hrows : RowsAt w base ob vs (rowsOf (n + 1) (allArcs n l which))) :
    Calls Try.prog 62 #[.pointer (some ⟨g, 0, none⟩), .int .i64 start] w fun e w' => ∃ v4 v5 v6 v7, e = .returned (.tuple #[v4, v5, v6, v7]) ∧ FarOut w w' n v4 v5 v6 v7 R ∧ Below w.heap.size w w' :=
  far_any k n start _ g ob base vs w hs.n1 hs0 hs1 hg hrows (rowsOf_length _ _) (rows_arc hs.fit hwh) R h
/-- What solved tells. -/
def solvedOf (n : Nat) : FRes → List Int × Int
  | .loop _ => ([], 20)
  | .done s => (s.sum.take n, 0)
def solvedN (k n : Nat) (l : List S44) : Option (List Int × Int) := (search k n l (upTo l.length) n).map (solvedOf n)
theorem nil_neq (w : World) : (binOp .neq 82 (.slice none 0 0) (.slice none 0 0)).run Try.prog w = .ok (.bool false) w := run_neq_slice_nil_any (P := Try.prog) w 82 105 none 0 0 0 0 Try.underlying82
theorem some_neq (w : World) (b m c : Nat) : (binOp .neq 82 (.slice (some ⟨b, 0, none⟩) m c) (.slice none 0 0)).run Try.prog w = .ok (.bool true) w := run_neq_slice_nil_any (P := Try.prog) w 82 105 (some ⟨b, 0, none⟩) m c 0 0 Try.underlying82
set_option maxHeartbeats 2000000 in
theorem solved_any (k n : Nat) (l : List S44) (A : Option Addr) (c : Nat) (w : World) (hs : SysOk n l) (hr : Kd.C k44 w A l.length l) (hc : l.length ≤ c) (r1 : List Int) (r2 : Int) (h : solvedN k n l = some (r1, r2)) :
    Calls Try.prog 49 #[.int .i64 (n : Int), .slice A l.length c] w fun e w' => ∃ v0_ : Value, e = .returned (.tuple #[v0_, .int .i64 r2]) ∧ Kd.V (Kd.int .i64) 3 w' w.heap.size (fun k_ => (w.heap.size ≤ k_)) v0_ r1 ∧ Below w.heap.size w w' := by
  obtain ⟨R, hR, hR2⟩ := Option.map_eq_some_iff.1 h
  have HS := Aside0.mk hs
  have HR := Aside0.mk hr
  have HC := Aside0.mk hc
  have H := Aside0.mk hR
  have H2 := Aside0.mk hR2
  clear hs hr hc h hR hR2
  go_enter Try.func49, Try.ntmps49
  go_wp2_with (fail)
  refine (graph_every.calls 0 A c l (upTo l.length) _ HR.out HC.out (by unfold graph_every.f; rw [if_pos (by have := HS.out.len; omega)])).mono ?_
  rintro e w1 ⟨v, rfl, hv, hb⟩
  have HB := Aside0.mk hb
  obtain ⟨A2, c2, hv2⟩ := Kd.R_slice hv
  subst hv2
  have HV := Aside0.mk (Kd.R_reads' hv)
  clear hb hv
  rw [upTo_length]
  go_wp2_with (fail)
  have hm := made_any n l (upTo l.length) A c A2 c2 w1 HS.out.n1 HS.out.len HS.out.fit (which_upTo l) (by rw [upTo_length]; exact HS.out.len) (Kd.C_below HR.out HB.out) HC.out HV.out.2.2 HV.out.2.1
  rw [upTo_length] at hm
  refine hm.mono ?_
  clear hm
  rintro e w2 ⟨g, ob, vs, rfl, hg, hrows, hgg, hob, hb⟩
  have HB2 := Aside0.mk (below_step HB.out hb)
  have HG := Aside0.mk hg
  have HRW := Aside0.mk hrows
  clear hg hrows hgg hob hb HB HV
  go_wp2_with (fail)
  refine (far_made k n (n : Int) l (upTo l.length) R HS.out (which_upTo l) H.out (by omega) (by omega) g ob _ vs _ HG.out HRW.out).mono ?_
  rintro e w3 ⟨v4, v5, v6, v7, rfl, ho, hb⟩
  have HB3 := Aside0.mk (below_step HB2.out hb)
  have HO := Aside0.mk ho
  have HZ := Aside0.mk HB2.out.size
  clear ho hb HB2 HG HRW H
  cases R with
  | loop lp =>
    obtain ⟨rfl, rfl, rfl, hne, hl⟩ := HO.out
    obtain ⟨b7, c7, hv7, _⟩ := Kd.R_form hl (List.length_pos_iff.2 hne)
    subst hv7
    obtain ⟨rfl, rfl⟩ := Prod.mk.inj H2.out
    clear HO hl hne H2
    obtain ⟨m7, HM⟩ : ∃ m7, Aside0 (lp.length = m7) := ⟨_, ⟨rfl⟩⟩
    rw [HM.out]
    have qn := fun w => some_neq w b7 m7 c7
    go_wp2
    go_ret2
    exact ⟨_, rfl, Kd.V_nil _ _ _ _ _, HB3.out⟩
  | done s =>
    obtain ⟨bs, bk, bl, rfl, rfl, rfl, rfl, hcs, hck, hcl, hls, hlk, hll, hbs, hbk, hbl⟩ := HO.out
    obtain ⟨rfl, rfl⟩ := Prod.mk.inj H2.out
    have HCS := Aside0.mk hcs
    have HLS := Aside0.mk hls
    have HBS := Aside0.mk hbs
    clear HO H2 hcs hck hcl hls hlk hll hbs hbk hbl
    have qn := nil_neq
    go_wp2
    go_ret2
    have hlt : (s.sum.take n).length = n := by rw [List.length_take, HLS.out]; omega
    have hF := Kd.F_take (m := n) (encI_F (ok := fun k_ => w.heap.size ≤ k_) HCS.out (by rw [HLS.out]; have := HS.out.n1; omega) (Nat.le_trans HZ.out HBS.out)) (by rw [HLS.out]; omega)
    exact ⟨.slice (some ⟨bs, 0, none⟩) n n, rfl, ⟨some ⟨bs, 0, none⟩, n, by rw [hlt], by rw [hlt]; exact Nat.le_refl _, hF⟩, HB3.out⟩
theorem relax.mono (n start : Int) (x k : Nat) : ∀ (l : List S105) (s : FSt) (q : List Int), LeO (relax k n start x l s q) (relax (k + 1) n start x l s q) := by
  intro l
  induction l with
  | nil => intro s q; exact LeO.refl _
  | cons a l ih =>
    intro s q
    simp only [relax]
    refine LeO.ite (ih _ _) (LeO.bind (LeO.ite (graph_loops.mono _ _ _ _) (LeO.refl _)) fun l => LeO.ite (LeO.ite (ih _ _) (ih _ _)) (LeO.refl _))
theorem farL.mono (n start : Int) (rows : List (List S105)) : ∀ (k : Nat) (s : FSt) (q : List Int), LeO (farL n start rows k s q) (farL n start rows (k + 1) s q) := by
  intro k
  induction k with
  | zero => intro s q; exact LeO.none _
  | succ k ih =>
    intro s q
    cases q with
    | nil => exact LeO.refl _
    | cons x q =>
      simp only [farL]
      refine LeO.bind (relax.mono _ _ _ _ _ _ _) fun r => ?_
      cases r with
      | inl l => exact LeO.refl _
      | inr p => exact ih _ _
theorem search.mono (n : Nat) (l : List S44) (which : List Int) (start : Int) (k : Nat) : LeO (search k n l which start) (search (k + 1) n l which start) := farL.mono _ _ _ _ _ _
def graph_Solve.f (k : Nat) (a0 : Int) (l1 : List S44) : Option (List Int × Int) := if validB a0 l1 = true then solvedN k a0.toNat l1 else some ([], 4)
theorem solvedN.mono (n : Nat) (l : List S44) (k : Nat) : LeO (solvedN k n l) (solvedN (k + 1) n l) := LeO.map _ (search.mono _ _ _ _ _)
theorem graph_Solve.mono : ∀ a0 l1 k, LeO (graph_Solve.f k a0 l1) (graph_Solve.f (k + 1) a0 l1) := fun _ _ _ => LeO.ite (solvedN.mono _ _ _) (LeO.refl _)
set_option maxHeartbeats 1000000 in
theorem graph_Solve.calls (k : Nat) (a0 : Int) (A1 : Option Addr) (c1 : Nat) (l1 : List (S44)) (r1 : List Int) (r2 : Int) (w : World) (hr1 : Kd.C k44 w A1 l1.length l1) (hc1 : l1.length ≤ c1) (h : graph_Solve.f k a0 l1 = some (r1, r2)) :
    Calls Try.prog 22 #[.int .i64 a0, .slice A1 l1.length c1] w fun e w' => ∃ v0_ : Value, e = .returned (.tuple #[v0_, .int .i64 r2]) ∧ Kd.V (Kd.int .i64) 3 w' w.heap.size (fun k_ => (w.heap.size ≤ k_)) v0_ r1 ∧ Below w.heap.size w w' := by
  have HR := Aside0.mk hr1
  have HC := Aside0.mk hc1
  have H := Aside0.mk h
  clear hr1 hc1 h
  go_enter Try.func22, Try.ntmps22
  go_wp2_with (fail)
  refine (graph_Valid.calls a0 A1 c1 l1 (validB a0 l1) _ HR.out HC.out rfl).mono ?_
  rintro e w1 ⟨rfl, hb⟩
  have HB := Aside0.mk hb
  clear hb
  cases hv : validB a0 l1 with
  | false =>
    have H2 := H.out
    unfold graph_Solve.f at H2
    rw [hv, if_neg (by decide)] at H2
    obtain ⟨rfl, rfl⟩ := Prod.mk.inj (Option.some.inj H2)
    clear hv H2 H
    go_wp2
    go_ret2
    exact ⟨_, rfl, Kd.V_nil _ _ _ _ _, HB.out⟩
  | true =>
    have H2 := H.out
    unfold graph_Solve.f at H2
    rw [hv, if_pos rfl] at H2
    obtain ⟨n, rfl, hs⟩ := valid_ok hv
    have HS := Aside0.mk hs
    rw [Int.toNat_natCast] at H2
    replace H := Aside0.mk H2
    clear hv hs H2
    go_wp2_with (fail)
    refine (solved_any k n l1 A1 c1 _ HS.out (Kd.C_below HR.out HB.out) HC.out r1 r2 H.out).mono ?_
    rintro e w2 ⟨v, rfl, hv, hb⟩
    have HV := Aside0.mk (Kd.V_mono (ok' := fun k_ => w.heap.size ≤ k_) hv (fun k_ hk => Nat.le_trans HB.out.size hk))
    have HB2 := Aside0.mk (below_step HB.out hb)
    clear hv hb
    go_wp2
    go_ret2
    exact ⟨_, rfl, HV.out, HB2.out⟩

end Go.Proofs.Ytegejpcglabhbaa.G
