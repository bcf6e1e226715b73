/- A part of this claim's proof: texts of its author, and printed ones, packed by a program of its author's. -/
import Derived.Test.YtegejpcglabhbaaCe9
import Derived.Deep.DeepCutAuto
import Derived.Deep.CutBlock
import Derived.WalkSpells
namespace Go.Proofs.Ytegejpcglabhbaa.G
open Go.RowKit Go.Proofs.YtegejpcglabhbaaW.PrintWords Go.Proofs.YtegejpcglabhbaaW.PrintLast Go.Proofs.YtegejpcglabhbaaW.PrintMore
set_option linter.unusedVariables false
set_option linter.unusedSimpArgs false
attribute [local go_sem] Option.isNone_none Option.isNone_some Bool.not_true Bool.not_false
def graph_far.T1 : Bool × List (List Nat × List Nat) := (true, [([], []), ([0], [0]), ([1], [1]), ([2], [2]), ([3], [3]), ([4, 4], [4]), ([], []), ([6], [6]), ([7], [7]), ([8], [8]), ([9], [9]), ([10, 10], [10]), ([], []), ([12], [12]), ([13], [13]), ([14], [14]), ([15], [15]), ([16, 16], [16]), ([5, 0, 1, 2, 3, 4, 5], [5]), ([11, 18, 0, 1, 2, 3, 4, 5, 6, 7, 8, 9, 10, 11, 18], [11]), ([17, 19, 0, 1, 2, 3, 4, 5, 6, 7, 8, 9, 10, 11, 12, 13, 14, 15, 16, 17, 18, 19], [17])])
def graph_far.B1 : List Nat := [0, 1, 3, 7, 15, 31, 0, 64, 192, 448, 960, 1984, 0, 4096, 12288, 28672, 61440, 126976, 63, 266239, 1048575]
theorem graph_far.tab1 : rtab .any (opsOf Try.f62 1) = graph_far.T1 := by kernel_rfl
theorem graph_far.bits1 : waitsOk graph_far.T1.2 graph_far.B1 = true := by kernel_rfl
def graph_far.T2 : Bool × List (List Nat × List Nat) := (true, [([], []), ([0], [0]), ([1], [1]), ([2], [2]), ([3], [3]), ([4, 4], [4]), ([], []), ([6], [6]), ([7], [7]), ([8], [8]), ([9], [9]), ([10, 10], [10]), ([5, 0, 1, 2, 3, 4, 5], [5]), ([11, 12, 0, 1, 2, 3, 4, 5, 6, 7, 8, 9, 10, 11, 12], [11])])
def graph_far.B2 : List Nat := [0, 1, 3, 7, 15, 31, 0, 64, 192, 448, 960, 1984, 63, 8191]
theorem graph_far.tab2 : rtab .any (opsOf Try.f62 2) = graph_far.T2 := by kernel_rfl
theorem graph_far.bits2 : waitsOk graph_far.T2.2 graph_far.B2 = true := by kernel_rfl
def graph_far.T19 : Bool × List (List Nat × List Nat) := (true, [([], []), ([], []), ([1], [1]), ([], []), ([], []), ([4], [4]), ([], []), ([], []), ([7], [7]), ([], []), ([], []), ([10], [10]), ([], []), ([], []), ([12, 13], [12, 13]), ([14], [14]), ([], []), ([16], [16]), ([15, 17], [15, 17]), ([], []), ([], []), ([], []), ([20, 21], [20, 21]), ([22], [22]), ([23], [23]), ([0, 2, 0, 1, 2, 12, 13, 14, 15, 16, 17, 18, 23], [0, 2]), ([25, 18, 0, 1, 2, 12, 13, 14, 15, 16, 17, 18, 23], [18, 25]), ([3, 5, 0, 1, 2, 3, 4, 5, 12, 13, 14, 15, 16, 17, 18, 23, 25, 26], [3, 5]), ([27, 26, 0, 1, 2, 3, 4, 5, 12, 13, 14, 15, 16, 17, 18, 23, 25, 26], [27]), ([6, 8, 0, 1, 2, 3, 4, 5, 6, 7, 8, 12, 13, 14, 15, 16, 17, 18, 19, 23, 25, 26, 27, 28], [6, 8]), ([29, 19, 28, 0, 1, 2, 3, 4, 5, 6, 7, 8, 12, 13, 14, 15, 16, 17, 18, 19, 23, 25, 26, 27, 28], [19, 29]), ([9, 11, 0, 1, 2, 3, 4, 5, 6, 7, 8, 9, 10, 11, 12, 13, 14, 15, 16, 17, 18, 19, 20, 21, 22, 23, 24, 25, 26, 27, 28, 29, 30], [9, 11]), ([31, 24, 30, 0, 1, 2, 3, 4, 5, 6, 7, 8, 9, 10, 11, 12, 13, 14, 15, 16, 17, 18, 19, 20, 21, 22, 23, 24, 25, 26, 27, 28, 29, 30], [24, 31])])
def graph_far.B19 : List Nat := [0, 0, 2, 0, 0, 16, 0, 0, 128, 0, 0, 1024, 0, 0, 12288, 28672, 0, 65536, 258048, 0, 0, 0, 3145728, 7340032, 15728640, 16248839, 49803271, 116912191, 251129919, 520090111, 1056961023, 2147483647, 4294967295]
theorem graph_far.tab19 : rtab .any (opsOf Try.f62 19) = graph_far.T19 := by kernel_rfl
theorem graph_far.bits19 : waitsOk graph_far.T19.2 graph_far.B19 = true := by kernel_rfl
theorem madeI (N : Nat) : madeCells (Value.int .i64 0).cells (N * 1) = encI (List.replicate N 0) := by
 apply Array.ext
 ·simp [madeCells, encI]
 ·intro i h1 h2
  simp [madeCells, encI, Value.cells, Nat.mod_one]
theorem madeB (N : Nat) : madeCells (Value.bool false).cells (N * 1) = encB (List.replicate N false) := by
 apply Array.ext
 ·simp [madeCells, encB]
 ·intro i h1 h2
  simp [madeCells, encB, Value.cells, Nat.mod_one]
theorem cells105 : (Value.agg #[(.int .i64 0), (.int .i64 0), (.int .i64 0), (.int .i64 0)]).cells = #[(.int .i64 0), (.int .i64 0), (.int .i64 0), (.int .i64 0)] := by rfl
theorem madeA (N : Nat) : madeCells (Value.agg #[(.int .i64 0), (.int .i64 0), (.int .i64 0), (.int .i64 0)]).cells (N * 4) = encA (List.replicate N ⟨0, 0, 0, 0⟩) := by
 have hlen : ∀ m : Nat, ((List.replicate m (⟨0, 0, 0, 0⟩ : S105)).flatMap cell4).length = m * 4 := by
  intro m
  induction m with
  | zero => rfl
  | succ m ih => rw [List.replicate_succ, List.flatMap_cons, List.length_append, ih, cell4_len]; omega
 rw [cells105]
 apply Array.ext
 ·rw [size_madeCells]; simp only [encA, List.size_toArray]; exact (hlen N).symm
 ·intro i h1 h2
  have h3 : i < N * 4 := by rw [size_madeCells] at h1; exact h1
  have h4 : (List.replicate N (⟨0, 0, 0, 0⟩ : S105))[i / 4]? = some ⟨0, 0, 0, 0⟩ := by
   rw [List.getElem?_replicate]
   rw [if_pos (by omega)]
  have h5 := encA_list_get _ (i / 4) (i % 4) _ h4 (by omega)
  rw [show i / 4 * 4 + i % 4 = i by omega] at h5
  have h6 : (encA (List.replicate N ⟨0, 0, 0, 0⟩))[i]? = (cell4 ⟨0, 0, 0, 0⟩)[i % 4]? := by
   simp only [encA, List.getElem?_toArray]; exact h5
  have h7 : ∀ j : Nat, j < 4 → (cell4 ⟨0, 0, 0, 0⟩)[j]? = some (.int .i64 0) := by
   intro j hj
   rcases j with _ | _ | _ | _ | j
   ·rfl
   ·rfl
   ·rfl
   ·rfl
   ·omega
  rw [h7 _ (by omega)] at h6
  have h8 := (Array.getElem?_eq_some_iff.1 h6)
  obtain ⟨h9, h10⟩ := h8
  rw [h10]
  have h11 : ∀ j : Nat, j < 4 → (#[(.int .i64 0), (.int .i64 0), (.int .i64 0), (.int .i64 0)] : Array Value)[j]! = .int .i64 0 := by
   intro j hj
   rcases j with _ | _ | _ | _ | j
   ·rfl
   ·rfl
   ·rfl
   ·rfl
   ·omega
  simp only [madeCells, Array.getElem_map, Array.getElem_range]
  exact h11 _ (Nat.mod_lt _ (by decide))
theorem drop105 {l : List S105} {i : Nat} (hlt : i < l.length) : l.drop i = rd_T105 l i :: l.drop (i + 1) := by
 rw [List.drop_eq_getElem_cons hlt]
 simp [rd_T105, List.getD_eq_getElem?_getD, List.getElem?_eq_getElem hlt]
set_option maxHeartbeats 4000000 in
set_option maxRecDepth 100000 in
theorem far_any (k n : Nat) (start : Int) (rows : List (List S105)) (g ob base : Nat) (vs : List Value) (w : World) (hn : n ≤ 1200) (hs0 : 0 ≤ start) (hs1 : start ≤ n)
  (hg : w.heap[g]? = some (.cells #[.int .i64 (n : Int), .slice (some ⟨ob, 0, none⟩) (n + 1) (n + 1)] 103 (0, 0))) (hrows : RowsAt w base ob vs rows) (hlen : rows.length = n + 1)
  (harc : ∀ r ∈ rows, ∀ a ∈ r, 0 ≤ a.f1 ∧ a.f1 ≤ n) (R : FRes) (h : far k n start rows = some R) :
  Calls Try.prog 62 #[.pointer (some ⟨g, 0, none⟩), .int .i64 start] w fun e w' => ∃ v4 v5 v6 v7, e = .returned (.tuple #[v4, v5, v6, v7]) ∧ FarOut w w' n v4 v5 v6 v7 R ∧ Below w.heap.size w w' := by
 have BG := Aside0.mk hg
 have HR := Aside0.mk hrows
 obtain ⟨s, rfl⟩ := Int.eq_ofNat_of_zero_le hs0
 have HGG := Aside0.mk (blk_lt hg)
 have HA := Aside0.mk harc
 have H := Aside0.mk h
 have HB := Aside0.mk (Below.refl w.heap.size w)
 have HW1 := Aside0.mk (show wrap64 ((n : Int) + 1) = (n : Int) + 1 by unfold wrap64; omega)
 clear hg hrows harc h
 have hmk3 := make_cells Try.prog 25 3 (.int .i64 0) 1 8 Try.underlying25 info3 (n + 1) (by omega) (by omega)
 have hmk4 := make_cells Try.prog 81 4 (.bool false) 1 1 Try.underlying81 info4 (n + 1) (by omega) (by omega)
 have hmk5 := make_cells Try.prog 82 105 (.agg #[(.int .i64 0), (.int .i64 0), (.int .i64 0), (.int .i64 0)]) 4 32 Try.underlying82 info105 (n + 1) (by omega) (by omega)
 rw [madeI] at hmk3
 rw [madeB] at hmk4
 rw [madeA] at hmk5
 rw [Int.natCast_succ] at hmk3 hmk4 hmk5
 go_enter Try.func62, Try.ntmps62
 go_wp2
 refine start_ (n := 21) (S := fun w' => True) (ds := []) #[false, false, false, false, false, false, false, false, false, false, false, false, false, false, false, false, false, false, false, false, false] (by kernel_rfl) rfl rfl trivial (fun hHeld => ?_)
 refine with_tabW graph_far.tab1 graph_far.bits1 (fun HT_ HW_ => ?_)
 refine inv_at [0, 1, 2, 3, 4, 5, 6, 7, 8, 9, 10, 11, 12, 13, 14, 15, 16, 17, 18, 19, 20] (fun a0_ b a w' => ∃ (bs : Nat) (bk : Nat) (bl : Nat) (m5_ : Value) (m11_ : Value) (m17_ : Value) (m18_ : Value) (m19_ : Value) (m20_ : Value), a = putSel a0_ b [(0, 17, .pointer (some (⟨g, 0, none⟩ : Addr))), (1, 18, .pointer (some (⟨g, 0, none⟩ : Addr))), (2, 19, .pointer (some (⟨g, 0, none⟩ : Addr))), (3, 20, .int .i64 (n : Int)), (4, 21, .int .i64 ((n : Int) + 1)), (5, 22, m5_), (6, 23, .pointer (some (⟨g, 0, none⟩ : Addr))), (7, 24, .pointer (some (⟨g, 0, none⟩ : Addr))), (8, 25, .pointer (some (⟨g, 0, none⟩ : Addr))), (9, 26, .int .i64 (n : Int)), (10, 27, .int .i64 ((n : Int) + 1)), (11, 28, m11_), (12, 29, .pointer (some (⟨g, 0, none⟩ : Addr))), (13, 30, .pointer (some (⟨g, 0, none⟩ : Addr))), (14, 31, .pointer (some (⟨g, 0, none⟩ : Addr))), (15, 32, .int .i64 (n : Int)), (16, 33, .int .i64 ((n : Int) + 1)), (17, 34, m17_), (18, 4, m18_), (19, 5, m19_), (20, 6, m20_)] ∧ (w'.heap[g]? = some (.cells #[.int .i64 (n : Int), .slice (some ⟨ob, 0, none⟩) (n + 1) (n + 1)] 103 (0, 0))) ∧ (Below w.heap.size w w') ∧ (b 5 = true → w'.heap[bs]? = some (.cells (encI (List.replicate (n + 1) 0)) 3 (0, 0)) ∧ w.heap.size ≤ bs) ∧ (b 11 = true → w'.heap[bk]? = some (.cells (encB (List.replicate (n + 1) false)) 4 (0, 0)) ∧ w.heap.size ≤ bk) ∧ (b 17 = true → w'.heap[bl]? = some (.cells (encA (List.replicate (n + 1) ⟨0, 0, 0, 0⟩)) 105 (0, 0)) ∧ w.heap.size ≤ bl) ∧ (b 5 = true → (m5_ : Value) = Value.slice (some ⟨bs, 0, none⟩) (n + 1) (n + 1)) ∧ (b 11 = true → (m11_ : Value) = Value.slice (some ⟨bk, 0, none⟩) (n + 1) (n + 1)) ∧ (b 17 = true → (m17_ : Value) = Value.slice (some ⟨bl, 0, none⟩) (n + 1) (n + 1)) ∧ (b 18 = true → (m18_ : Value) = Value.slice (some ⟨bs, 0, none⟩) (n + 1) (n + 1)) ∧ (b 19 = true → (m19_ : Value) = Value.slice (some ⟨bk, 0, none⟩) (n + 1) (n + 1)) ∧ (b 20 = true → (m20_ : Value) = Value.slice (some ⟨bl, 0, none⟩) (n + 1) (n + 1))) HT_.out HW_.out (by kernel_rfl) (by kernel_rfl) ?_ ?_ ?_
 ·exact ⟨0, 0, 0, .bool false, .bool false, .bool false, .bool false, .bool false, .bool false, by simp only [putSel, Bool.false_eq_true, if_false], (blk_drew BG.out), (below_drew HB.out), fun h_ => absurd h_ (by decide), fun h_ => absurd h_ (by decide), fun h_ => absurd h_ (by decide), fun h_ => absurd h_ (by decide), fun h_ => absurd h_ (by decide), fun h_ => absurd h_ (by decide), fun h_ => absurd h_ (by decide), fun h_ => absurd h_ (by decide), fun h_ => absurd h_ (by decide)⟩
 ·skip
  clear BG HB
  refine steps_cons ?_ ?_
  ·rintro b a w' ⟨bs, bk, bl, m5_, m11_, m17_, m18_, m19_, m20_, ha, Q_BG, Q_HB, Q_Fbs, Q_Fbk, Q_Fbl, Q_X5_, Q_X11_, Q_X17_, Q_X18_, Q_X19_, Q_X20_⟩ hb_ hon hoff
   refine ⟨_, rfl, fun K hK => ?_⟩
   have e0 : a.tmps[0]? = some (.pointer (some (⟨g, 0, none⟩ : Addr))) := by rw [ha]; exact (putSel_off rfl).trans rfl
   replace ha := Aside0.mk ha
   have BG := Aside0.mk Q_BG
   have HB := Aside0.mk Q_HB
   refine value_ (w1 := w') (v := .pointer (some (⟨g, 0, none⟩ : Addr))) (by rfl) rfl ?_ ?_
   ·go_simp
    (try simp only [i64_w])
    try rfl
   refine hK.out _ _ ⟨bs, bk, bl, m5_, m11_, m17_, m18_, m19_, m20_, (by rw [ha.out]; exact putSel_upk 0 hb_ rfl rfl rfl), Q_BG, Q_HB, fun h0_ => absurd ((hoff 5 (by kernel_rfl)).symm.trans h0_) (by decide), Q_Fbk, Q_Fbl, fun h0_ => absurd ((hoff 5 (by kernel_rfl)).symm.trans h0_) (by decide), Q_X11_, Q_X17_, fun h0_ => absurd ((hoff 18 (by kernel_rfl)).symm.trans h0_) (by decide), fun h0_ => absurd ((hoff 19 (by kernel_rfl)).symm.trans h0_) (by decide), fun h0_ => absurd ((hoff 20 (by kernel_rfl)).symm.trans h0_) (by decide)⟩
  refine steps_cons ?_ ?_
  ·rintro b a w' ⟨bs, bk, bl, m5_, m11_, m17_, m18_, m19_, m20_, ha, Q_BG, Q_HB, Q_Fbs, Q_Fbk, Q_Fbl, Q_X5_, Q_X11_, Q_X17_, Q_X18_, Q_X19_, Q_X20_⟩ hb_ hon hoff
   refine ⟨_, rfl, fun K hK => ?_⟩
   have e17 : a.tmps[17]? = some (.pointer (some (⟨g, 0, none⟩ : Addr))) := by rw [ha]; exact putSel_on (e := (0, 17, .pointer (some (⟨g, 0, none⟩ : Addr)))) 0 rfl rfl (hon 0 (by kernel_rfl)) rfl
   replace ha := Aside0.mk ha
   have BG := Aside0.mk Q_BG
   have HB := Aside0.mk Q_HB
   refine value_ (w1 := w') (v := .pointer (some (⟨g, 0, none⟩ : Addr))) (by rfl) rfl ?_ ?_
   ·go_simp
    (try simp only [i64_w])
    try rfl
   refine hK.out _ _ ⟨bs, bk, bl, m5_, m11_, m17_, m18_, m19_, m20_, (by rw [ha.out]; exact putSel_upk 1 hb_ rfl rfl rfl), Q_BG, Q_HB, fun h0_ => absurd ((hoff 5 (by kernel_rfl)).symm.trans h0_) (by decide), Q_Fbk, Q_Fbl, fun h0_ => absurd ((hoff 5 (by kernel_rfl)).symm.trans h0_) (by decide), Q_X11_, Q_X17_, fun h0_ => absurd ((hoff 18 (by kernel_rfl)).symm.trans h0_) (by decide), fun h0_ => absurd ((hoff 19 (by kernel_rfl)).symm.trans h0_) (by decide), fun h0_ => absurd ((hoff 20 (by kernel_rfl)).symm.trans h0_) (by decide)⟩
  refine steps_cons ?_ ?_
  ·rintro b a w' ⟨bs, bk, bl, m5_, m11_, m17_, m18_, m19_, m20_, ha, Q_BG, Q_HB, Q_Fbs, Q_Fbk, Q_Fbl, Q_X5_, Q_X11_, Q_X17_, Q_X18_, Q_X19_, Q_X20_⟩ hb_ hon hoff
   refine ⟨_, rfl, fun K hK => ?_⟩
   have e18 : a.tmps[18]? = some (.pointer (some (⟨g, 0, none⟩ : Addr))) := by rw [ha]; exact putSel_on (e := (1, 18, .pointer (some (⟨g, 0, none⟩ : Addr)))) 1 rfl rfl (hon 1 (by kernel_rfl)) rfl
   replace ha := Aside0.mk ha
   have BG := Aside0.mk Q_BG
   have HB := Aside0.mk Q_HB
   refine value_ (w1 := w') (v := .pointer (some (⟨g, 0, none⟩ : Addr))) (by rfl) rfl ?_ ?_
   ·go_simp
    (try simp only [i64_w])
    try rfl
   refine hK.out _ _ ⟨bs, bk, bl, m5_, m11_, m17_, m18_, m19_, m20_, (by rw [ha.out]; exact putSel_upk 2 hb_ rfl rfl rfl), Q_BG, Q_HB, fun h0_ => absurd ((hoff 5 (by kernel_rfl)).symm.trans h0_) (by decide), Q_Fbk, Q_Fbl, fun h0_ => absurd ((hoff 5 (by kernel_rfl)).symm.trans h0_) (by decide), Q_X11_, Q_X17_, fun h0_ => absurd ((hoff 18 (by kernel_rfl)).symm.trans h0_) (by decide), fun h0_ => absurd ((hoff 19 (by kernel_rfl)).symm.trans h0_) (by decide), fun h0_ => absurd ((hoff 20 (by kernel_rfl)).symm.trans h0_) (by decide)⟩
  refine steps_cons ?_ ?_
  ·rintro b a w' ⟨bs, bk, bl, m5_, m11_, m17_, m18_, m19_, m20_, ha, Q_BG, Q_HB, Q_Fbs, Q_Fbk, Q_Fbl, Q_X5_, Q_X11_, Q_X17_, Q_X18_, Q_X19_, Q_X20_⟩ hb_ hon hoff
   refine ⟨_, rfl, fun K hK => ?_⟩
   have e19 : a.tmps[19]? = some (.pointer (some (⟨g, 0, none⟩ : Addr))) := by rw [ha]; exact putSel_on (e := (2, 19, .pointer (some (⟨g, 0, none⟩ : Addr)))) 2 rfl rfl (hon 2 (by kernel_rfl)) rfl
   replace ha := Aside0.mk ha
   have BG := Aside0.mk Q_BG
   have HB := Aside0.mk Q_HB
   have z_ : w'.cell? ⟨g, 0, none⟩ = some (.int .i64 (n : Int)) := (blk_cell BG.out 0).trans rfl
   refine value_ (w1 := w') (v := .int .i64 (n : Int)) (by rfl) rfl ?_ ?_
   ·go_simp
    (try simp only [i64_w])
    try rfl
   refine hK.out _ _ ⟨bs, bk, bl, m5_, m11_, m17_, m18_, m19_, m20_, (by rw [ha.out]; exact putSel_upk 3 hb_ rfl rfl rfl), Q_BG, Q_HB, fun h0_ => absurd ((hoff 5 (by kernel_rfl)).symm.trans h0_) (by decide), Q_Fbk, Q_Fbl, fun h0_ => absurd ((hoff 5 (by kernel_rfl)).symm.trans h0_) (by decide), Q_X11_, Q_X17_, fun h0_ => absurd ((hoff 18 (by kernel_rfl)).symm.trans h0_) (by decide), fun h0_ => absurd ((hoff 19 (by kernel_rfl)).symm.trans h0_) (by decide), fun h0_ => absurd ((hoff 20 (by kernel_rfl)).symm.trans h0_) (by decide)⟩
  refine steps_cons ?_ ?_
  ·rintro b a w' ⟨bs, bk, bl, m5_, m11_, m17_, m18_, m19_, m20_, ha, Q_BG, Q_HB, Q_Fbs, Q_Fbk, Q_Fbl, Q_X5_, Q_X11_, Q_X17_, Q_X18_, Q_X19_, Q_X20_⟩ hb_ hon hoff
   refine ⟨_, rfl, fun K hK => ?_⟩
   have e20 : a.tmps[20]? = some (.int .i64 (n : Int)) := by rw [ha]; exact putSel_on (e := (3, 20, .int .i64 (n : Int))) 3 rfl rfl (hon 3 (by kernel_rfl)) rfl
   replace ha := Aside0.mk ha
   have BG := Aside0.mk Q_BG
   have HB := Aside0.mk Q_HB
   refine value_ (w1 := w') (v := .int .i64 ((n : Int) + 1)) (by rfl) rfl ?_ ?_
   ·go_simp
    (try simp only [i64_w, HW1.out])
    try rfl
   refine hK.out _ _ ⟨bs, bk, bl, m5_, m11_, m17_, m18_, m19_, m20_, (by rw [ha.out]; exact putSel_upk 4 hb_ rfl rfl rfl), BG.out, HB.out, fun h0_ => absurd ((hoff 5 (by kernel_rfl)).symm.trans h0_) (by decide), fun h0_ => (Q_Fbk h0_), fun h0_ => (Q_Fbl h0_), fun h0_ => absurd ((hoff 5 (by kernel_rfl)).symm.trans h0_) (by decide), Q_X11_, Q_X17_, fun h0_ => absurd ((hoff 18 (by kernel_rfl)).symm.trans h0_) (by decide), fun h0_ => absurd ((hoff 19 (by kernel_rfl)).symm.trans h0_) (by decide), fun h0_ => absurd ((hoff 20 (by kernel_rfl)).symm.trans h0_) (by decide)⟩
  refine steps_cons ?_ ?_
  ·rintro b a w' ⟨bs, bk, bl, m5_, m11_, m17_, m18_, m19_, m20_, ha, Q_BG, Q_HB, Q_Fbs, Q_Fbk, Q_Fbl, Q_X5_, Q_X11_, Q_X17_, Q_X18_, Q_X19_, Q_X20_⟩ hb_ hon hoff
   refine ⟨_, rfl, fun K hK => ?_⟩
   have e21 : a.tmps[21]? = some (.int .i64 ((n : Int) + 1)) := by rw [ha]; exact putSel_on (e := (4, 21, .int .i64 ((n : Int) + 1))) 4 rfl rfl (hon 4 (by kernel_rfl)) rfl
   replace ha := Aside0.mk ha
   have BG := Aside0.mk Q_BG
   have HB := Aside0.mk Q_HB
   refine value_ (w1 := w'.alloc (.cells (encI (List.replicate (n + 1) 0)) 3)) (v := .slice (some ⟨w'.heap.size, 0, none⟩) (n + 1) (n + 1)) (by rfl) rfl ?_ ?_
   ·go_simp
    try rfl
   refine hK.out _ _ ⟨w'.heap.size, bk, bl, (Value.slice (some ⟨w'.heap.size, 0, none⟩) (n + 1) (n + 1)), m11_, m17_, m18_, m19_, m20_, (by rw [ha.out]; exact putSel_upk 5 hb_ rfl rfl rfl), (blk_alloc BG.out _), (below_alloc HB.out _), fun _ => ⟨blk_new _ _, HB.out.size⟩, fun h0_ => ⟨blk_alloc (Q_Fbk h0_).1 _, (Q_Fbk h0_).2⟩, fun h0_ => ⟨blk_alloc (Q_Fbl h0_).1 _, (Q_Fbl h0_).2⟩, fun _ => rfl, Q_X11_, Q_X17_, fun h0_ => absurd ((hoff 18 (by kernel_rfl)).symm.trans h0_) (by decide), fun h0_ => absurd ((hoff 19 (by kernel_rfl)).symm.trans h0_) (by decide), fun h0_ => absurd ((hoff 20 (by kernel_rfl)).symm.trans h0_) (by decide)⟩
  refine steps_cons ?_ ?_
  ·rintro b a w' ⟨bs, bk, bl, m5_, m11_, m17_, m18_, m19_, m20_, ha, Q_BG, Q_HB, Q_Fbs, Q_Fbk, Q_Fbl, Q_X5_, Q_X11_, Q_X17_, Q_X18_, Q_X19_, Q_X20_⟩ hb_ hon hoff
   refine ⟨_, rfl, fun K hK => ?_⟩
   have e0 : a.tmps[0]? = some (.pointer (some (⟨g, 0, none⟩ : Addr))) := by rw [ha]; exact (putSel_off rfl).trans rfl
   replace ha := Aside0.mk ha
   have BG := Aside0.mk Q_BG
   have HB := Aside0.mk Q_HB
   refine value_ (w1 := w') (v := .pointer (some (⟨g, 0, none⟩ : Addr))) (by rfl) rfl ?_ ?_
   ·go_simp
    (try simp only [i64_w])
    try rfl
   refine hK.out _ _ ⟨bs, bk, bl, m5_, m11_, m17_, m18_, m19_, m20_, (by rw [ha.out]; exact putSel_upk 6 hb_ rfl rfl rfl), Q_BG, Q_HB, Q_Fbs, fun h0_ => absurd ((hoff 11 (by kernel_rfl)).symm.trans h0_) (by decide), Q_Fbl, Q_X5_, fun h0_ => absurd ((hoff 11 (by kernel_rfl)).symm.trans h0_) (by decide), Q_X17_, Q_X18_, fun h0_ => absurd ((hoff 19 (by kernel_rfl)).symm.trans h0_) (by decide), fun h0_ => absurd ((hoff 20 (by kernel_rfl)).symm.trans h0_) (by decide)⟩
  refine steps_cons ?_ ?_
  ·rintro b a w' ⟨bs, bk, bl, m5_, m11_, m17_, m18_, m19_, m20_, ha, Q_BG, Q_HB, Q_Fbs, Q_Fbk, Q_Fbl, Q_X5_, Q_X11_, Q_X17_, Q_X18_, Q_X19_, Q_X20_⟩ hb_ hon hoff
   refine ⟨_, rfl, fun K hK => ?_⟩
   have e23 : a.tmps[23]? = some (.pointer (some (⟨g, 0, none⟩ : Addr))) := by rw [ha]; exact putSel_on (e := (6, 23, .pointer (some (⟨g, 0, none⟩ : Addr)))) 6 rfl rfl (hon 6 (by kernel_rfl)) rfl
   replace ha := Aside0.mk ha
   have BG := Aside0.mk Q_BG
   have HB := Aside0.mk Q_HB
   refine value_ (w1 := w') (v := .pointer (some (⟨g, 0, none⟩ : Addr))) (by rfl) rfl ?_ ?_
   ·go_simp
    (try simp only [i64_w])
    try rfl
   refine hK.out _ _ ⟨bs, bk, bl, m5_, m11_, m17_, m18_, m19_, m20_, (by rw [ha.out]; exact putSel_upk 7 hb_ rfl rfl rfl), Q_BG, Q_HB, Q_Fbs, fun h0_ => absurd ((hoff 11 (by kernel_rfl)).symm.trans h0_) (by decide), Q_Fbl, Q_X5_, fun h0_ => absurd ((hoff 11 (by kernel_rfl)).symm.trans h0_) (by decide), Q_X17_, Q_X18_, fun h0_ => absurd ((hoff 19 (by kernel_rfl)).symm.trans h0_) (by decide), fun h0_ => absurd ((hoff 20 (by kernel_rfl)).symm.trans h0_) (by decide)⟩
  refine steps_cons ?_ ?_
  ·rintro b a w' ⟨bs, bk, bl, m5_, m11_, m17_, m18_, m19_, m20_, ha, Q_BG, Q_HB, Q_Fbs, Q_Fbk, Q_Fbl, Q_X5_, Q_X11_, Q_X17_, Q_X18_, Q_X19_, Q_X20_⟩ hb_ hon hoff
   refine ⟨_, rfl, fun K hK => ?_⟩
   have e24 : a.tmps[24]? = some (.pointer (some (⟨g, 0, none⟩ : Addr))) := by rw [ha]; exact putSel_on (e := (7, 24, .pointer (some (⟨g, 0, none⟩ : Addr)))) 7 rfl rfl (hon 7 (by kernel_rfl)) rfl
   replace ha := Aside0.mk ha
   have BG := Aside0.mk Q_BG
   have HB := Aside0.mk Q_HB
   refine value_ (w1 := w') (v := .pointer (some (⟨g, 0, none⟩ : Addr))) (by rfl) rfl ?_ ?_
   ·go_simp
    (try simp only [i64_w])
    try rfl
   refine hK.out _ _ ⟨bs, bk, bl, m5_, m11_, m17_, m18_, m19_, m20_, (by rw [ha.out]; exact putSel_upk 8 hb_ rfl rfl rfl), Q_BG, Q_HB, Q_Fbs, fun h0_ => absurd ((hoff 11 (by kernel_rfl)).symm.trans h0_) (by decide), Q_Fbl, Q_X5_, fun h0_ => absurd ((hoff 11 (by kernel_rfl)).symm.trans h0_) (by decide), Q_X17_, Q_X18_, fun h0_ => absurd ((hoff 19 (by kernel_rfl)).symm.trans h0_) (by decide), fun h0_ => absurd ((hoff 20 (by kernel_rfl)).symm.trans h0_) (by decide)⟩
  refine steps_cons ?_ ?_
  ·rintro b a w' ⟨bs, bk, bl, m5_, m11_, m17_, m18_, m19_, m20_, ha, Q_BG, Q_HB, Q_Fbs, Q_Fbk, Q_Fbl, Q_X5_, Q_X11_, Q_X17_, Q_X18_, Q_X19_, Q_X20_⟩ hb_ hon hoff
   refine ⟨_, rfl, fun K hK => ?_⟩
   have e25 : a.tmps[25]? = some (.pointer (some (⟨g, 0, none⟩ : Addr))) := by rw [ha]; exact putSel_on (e := (8, 25, .pointer (some (⟨g, 0, none⟩ : Addr)))) 8 rfl rfl (hon 8 (by kernel_rfl)) rfl
   replace ha := Aside0.mk ha
   have BG := Aside0.mk Q_BG
   have HB := Aside0.mk Q_HB
   have z_ : w'.cell? ⟨g, 0, none⟩ = some (.int .i64 (n : Int)) := (blk_cell BG.out 0).trans rfl
   refine value_ (w1 := w') (v := .int .i64 (n : Int)) (by rfl) rfl ?_ ?_
   ·go_simp
    (try simp only [i64_w])
    try rfl
   refine hK.out _ _ ⟨bs, bk, bl, m5_, m11_, m17_, m18_, m19_, m20_, (by rw [ha.out]; exact putSel_upk 9 hb_ rfl rfl rfl), Q_BG, Q_HB, Q_Fbs, fun h0_ => absurd ((hoff 11 (by kernel_rfl)).symm.trans h0_) (by decide), Q_Fbl, Q_X5_, fun h0_ => absurd ((hoff 11 (by kernel_rfl)).symm.trans h0_) (by decide), Q_X17_, Q_X18_, fun h0_ => absurd ((hoff 19 (by kernel_rfl)).symm.trans h0_) (by decide), fun h0_ => absurd ((hoff 20 (by kernel_rfl)).symm.trans h0_) (by decide)⟩
  refine steps_cons ?_ ?_
  ·rintro b a w' ⟨bs, bk, bl, m5_, m11_, m17_, m18_, m19_, m20_, ha, Q_BG, Q_HB, Q_Fbs, Q_Fbk, Q_Fbl, Q_X5_, Q_X11_, Q_X17_, Q_X18_, Q_X19_, Q_X20_⟩ hb_ hon hoff
   refine ⟨_, rfl, fun K hK => ?_⟩
   have e26 : a.tmps[26]? = some (.int .i64 (n : Int)) := by rw [ha]; exact putSel_on (e := (9, 26, .int .i64 (n : Int))) 9 rfl rfl (hon 9 (by kernel_rfl)) rfl
   replace ha := Aside0.mk ha
   have BG := Aside0.mk Q_BG
   have HB := Aside0.mk Q_HB
   refine value_ (w1 := w') (v := .int .i64 ((n : Int) + 1)) (by rfl) rfl ?_ ?_
   ·go_simp
    (try simp only [i64_w, HW1.out])
    try rfl
   refine hK.out _ _ ⟨bs, bk, bl, m5_, m11_, m17_, m18_, m19_, m20_, (by rw [ha.out]; exact putSel_upk 10 hb_ rfl rfl rfl), BG.out, HB.out, fun h0_ => (Q_Fbs h0_), fun h0_ => absurd ((hoff 11 (by kernel_rfl)).symm.trans h0_) (by decide), fun h0_ => (Q_Fbl h0_), Q_X5_, fun h0_ => absurd ((hoff 11 (by kernel_rfl)).symm.trans h0_) (by decide), Q_X17_, Q_X18_, fun h0_ => absurd ((hoff 19 (by kernel_rfl)).symm.trans h0_) (by decide), fun h0_ => absurd ((hoff 20 (by kernel_rfl)).symm.trans h0_) (by decide)⟩
  refine steps_cons ?_ ?_
  ·rintro b a w' ⟨bs, bk, bl, m5_, m11_, m17_, m18_, m19_, m20_, ha, Q_BG, Q_HB, Q_Fbs, Q_Fbk, Q_Fbl, Q_X5_, Q_X11_, Q_X17_, Q_X18_, Q_X19_, Q_X20_⟩ hb_ hon hoff
   refine ⟨_, rfl, fun K hK => ?_⟩
   have e27 : a.tmps[27]? = some (.int .i64 ((n : Int) + 1)) := by rw [ha]; exact putSel_on (e := (10, 27, .int .i64 ((n : Int) + 1))) 10 rfl rfl (hon 10 (by kernel_rfl)) rfl
   replace ha := Aside0.mk ha
   have BG := Aside0.mk Q_BG
   have HB := Aside0.mk Q_HB
   refine value_ (w1 := w'.alloc (.cells (encB (List.replicate (n + 1) false)) 4)) (v := .slice (some ⟨w'.heap.size, 0, none⟩) (n + 1) (n + 1)) (by rfl) rfl ?_ ?_
   ·go_simp
    try rfl
   refine hK.out _ _ ⟨bs, w'.heap.size, bl, m5_, (Value.slice (some ⟨w'.heap.size, 0, none⟩) (n + 1) (n + 1)), m17_, m18_, m19_, m20_, (by rw [ha.out]; exact putSel_upk 11 hb_ rfl rfl rfl), (blk_alloc BG.out _), (below_alloc HB.out _), fun h0_ => ⟨blk_alloc (Q_Fbs h0_).1 _, (Q_Fbs h0_).2⟩, fun _ => ⟨blk_new _ _, HB.out.size⟩, fun h0_ => ⟨blk_alloc (Q_Fbl h0_).1 _, (Q_Fbl h0_).2⟩, Q_X5_, fun _ => rfl, Q_X17_, Q_X18_, fun h0_ => absurd ((hoff 19 (by kernel_rfl)).symm.trans h0_) (by decide), fun h0_ => absurd ((hoff 20 (by kernel_rfl)).symm.trans h0_) (by decide)⟩
  refine steps_cons ?_ ?_
  ·rintro b a w' ⟨bs, bk, bl, m5_, m11_, m17_, m18_, m19_, m20_, ha, Q_BG, Q_HB, Q_Fbs, Q_Fbk, Q_Fbl, Q_X5_, Q_X11_, Q_X17_, Q_X18_, Q_X19_, Q_X20_⟩ hb_ hon hoff
   refine ⟨_, rfl, fun K hK => ?_⟩
   have e0 : a.tmps[0]? = some (.pointer (some (⟨g, 0, none⟩ : Addr))) := by rw [ha]; exact (putSel_off rfl).trans rfl
   replace ha := Aside0.mk ha
   have BG := Aside0.mk Q_BG
   have HB := Aside0.mk Q_HB
   refine value_ (w1 := w') (v := .pointer (some (⟨g, 0, none⟩ : Addr))) (by rfl) rfl ?_ ?_
   ·go_simp
    (try simp only [i64_w])
    try rfl
   refine hK.out _ _ ⟨bs, bk, bl, m5_, m11_, m17_, m18_, m19_, m20_, (by rw [ha.out]; exact putSel_upk 12 hb_ rfl rfl rfl), Q_BG, Q_HB, Q_Fbs, Q_Fbk, fun h0_ => absurd ((hoff 17 (by kernel_rfl)).symm.trans h0_) (by decide), Q_X5_, Q_X11_, fun h0_ => absurd ((hoff 17 (by kernel_rfl)).symm.trans h0_) (by decide), Q_X18_, Q_X19_, fun h0_ => absurd ((hoff 20 (by kernel_rfl)).symm.trans h0_) (by decide)⟩
  refine steps_cons ?_ ?_
  ·rintro b a w' ⟨bs, bk, bl, m5_, m11_, m17_, m18_, m19_, m20_, ha, Q_BG, Q_HB, Q_Fbs, Q_Fbk, Q_Fbl, Q_X5_, Q_X11_, Q_X17_, Q_X18_, Q_X19_, Q_X20_⟩ hb_ hon hoff
   refine ⟨_, rfl, fun K hK => ?_⟩
   have e29 : a.tmps[29]? = some (.pointer (some (⟨g, 0, none⟩ : Addr))) := by rw [ha]; exact putSel_on (e := (12, 29, .pointer (some (⟨g, 0, none⟩ : Addr)))) 12 rfl rfl (hon 12 (by kernel_rfl)) rfl
   replace ha := Aside0.mk ha
   have BG := Aside0.mk Q_BG
   have HB := Aside0.mk Q_HB
   refine value_ (w1 := w') (v := .pointer (some (⟨g, 0, none⟩ : Addr))) (by rfl) rfl ?_ ?_
   ·go_simp
    (try simp only [i64_w])
    try rfl
   refine hK.out _ _ ⟨bs, bk, bl, m5_, m11_, m17_, m18_, m19_, m20_, (by rw [ha.out]; exact putSel_upk 13 hb_ rfl rfl rfl), Q_BG, Q_HB, Q_Fbs, Q_Fbk, fun h0_ => absurd ((hoff 17 (by kernel_rfl)).symm.trans h0_) (by decide), Q_X5_, Q_X11_, fun h0_ => absurd ((hoff 17 (by kernel_rfl)).symm.trans h0_) (by decide), Q_X18_, Q_X19_, fun h0_ => absurd ((hoff 20 (by kernel_rfl)).symm.trans h0_) (by decide)⟩
  refine steps_cons ?_ ?_
  ·rintro b a w' ⟨bs, bk, bl, m5_, m11_, m17_, m18_, m19_, m20_, ha, Q_BG, Q_HB, Q_Fbs, Q_Fbk, Q_Fbl, Q_X5_, Q_X11_, Q_X17_, Q_X18_, Q_X19_, Q_X20_⟩ hb_ hon hoff
   refine ⟨_, rfl, fun K hK => ?_⟩
   have e30 : a.tmps[30]? = some (.pointer (some (⟨g, 0, none⟩ : Addr))) := by rw [ha]; exact putSel_on (e := (13, 30, .pointer (some (⟨g, 0, none⟩ : Addr)))) 13 rfl rfl (hon 13 (by kernel_rfl)) rfl
   replace ha := Aside0.mk ha
   have BG := Aside0.mk Q_BG
   have HB := Aside0.mk Q_HB
   refine value_ (w1 := w') (v := .pointer (some (⟨g, 0, none⟩ : Addr))) (by rfl) rfl ?_ ?_
   ·go_simp
    (try simp only [i64_w])
    try rfl
   refine hK.out _ _ ⟨bs, bk, bl, m5_, m11_, m17_, m18_, m19_, m20_, (by rw [ha.out]; exact putSel_upk 14 hb_ rfl rfl rfl), Q_BG, Q_HB, Q_Fbs, Q_Fbk, fun h0_ => absurd ((hoff 17 (by kernel_rfl)).symm.trans h0_) (by decide), Q_X5_, Q_X11_, fun h0_ => absurd ((hoff 17 (by kernel_rfl)).symm.trans h0_) (by decide), Q_X18_, Q_X19_, fun h0_ => absurd ((hoff 20 (by kernel_rfl)).symm.trans h0_) (by decide)⟩
  refine steps_cons ?_ ?_
  ·rintro b a w' ⟨bs, bk, bl, m5_, m11_, m17_, m18_, m19_, m20_, ha, Q_BG, Q_HB, Q_Fbs, Q_Fbk, Q_Fbl, Q_X5_, Q_X11_, Q_X17_, Q_X18_, Q_X19_, Q_X20_⟩ hb_ hon hoff
   refine ⟨_, rfl, fun K hK => ?_⟩
   have e31 : a.tmps[31]? = some (.pointer (some (⟨g, 0, none⟩ : Addr))) := by rw [ha]; exact putSel_on (e := (14, 31, .pointer (some (⟨g, 0, none⟩ : Addr)))) 14 rfl rfl (hon 14 (by kernel_rfl)) rfl
   replace ha := Aside0.mk ha
   have BG := Aside0.mk Q_BG
   have HB := Aside0.mk Q_HB
   have z_ : w'.cell? ⟨g, 0, none⟩ = some (.int .i64 (n : Int)) := (blk_cell BG.out 0).trans rfl
   refine value_ (w1 := w') (v := .int .i64 (n : Int)) (by rfl) rfl ?_ ?_
   ·go_simp
    (try simp only [i64_w])
    try rfl
   refine hK.out _ _ ⟨bs, bk, bl, m5_, m11_, m17_, m18_, m19_, m20_, (by rw [ha.out]; exact putSel_upk 15 hb_ rfl rfl rfl), Q_BG, Q_HB, Q_Fbs, Q_Fbk, fun h0_ => absurd ((hoff 17 (by kernel_rfl)).symm.trans h0_) (by decide), Q_X5_, Q_X11_, fun h0_ => absurd ((hoff 17 (by kernel_rfl)).symm.trans h0_) (by decide), Q_X18_, Q_X19_, fun h0_ => absurd ((hoff 20 (by kernel_rfl)).symm.trans h0_) (by decide)⟩
  refine steps_cons ?_ ?_
  ·rintro b a w' ⟨bs, bk, bl, m5_, m11_, m17_, m18_, m19_, m20_, ha, Q_BG, Q_HB, Q_Fbs, Q_Fbk, Q_Fbl, Q_X5_, Q_X11_, Q_X17_, Q_X18_, Q_X19_, Q_X20_⟩ hb_ hon hoff
   refine ⟨_, rfl, fun K hK => ?_⟩
   have e32 : a.tmps[32]? = some (.int .i64 (n : Int)) := by rw [ha]; exact putSel_on (e := (15, 32, .int .i64 (n : Int))) 15 rfl rfl (hon 15 (by kernel_rfl)) rfl
   replace ha := Aside0.mk ha
   have BG := Aside0.mk Q_BG
   have HB := Aside0.mk Q_HB
   refine value_ (w1 := w') (v := .int .i64 ((n : Int) + 1)) (by rfl) rfl ?_ ?_
   ·go_simp
    (try simp only [i64_w, HW1.out])
    try rfl
   refine hK.out _ _ ⟨bs, bk, bl, m5_, m11_, m17_, m18_, m19_, m20_, (by rw [ha.out]; exact putSel_upk 16 hb_ rfl rfl rfl), BG.out, HB.out, fun h0_ => (Q_Fbs h0_), fun h0_ => (Q_Fbk h0_), fun h0_ => absurd ((hoff 17 (by kernel_rfl)).symm.trans h0_) (by decide), Q_X5_, Q_X11_, fun h0_ => absurd ((hoff 17 (by kernel_rfl)).symm.trans h0_) (by decide), Q_X18_, Q_X19_, fun h0_ => absurd ((hoff 20 (by kernel_rfl)).symm.trans h0_) (by decide)⟩
  refine steps_cons ?_ ?_
  ·rintro b a w' ⟨bs, bk, bl, m5_, m11_, m17_, m18_, m19_, m20_, ha, Q_BG, Q_HB, Q_Fbs, Q_Fbk, Q_Fbl, Q_X5_, Q_X11_, Q_X17_, Q_X18_, Q_X19_, Q_X20_⟩ hb_ hon hoff
   refine ⟨_, rfl, fun K hK => ?_⟩
   have e33 : a.tmps[33]? = some (.int .i64 ((n : Int) + 1)) := by rw [ha]; exact putSel_on (e := (16, 33, .int .i64 ((n : Int) + 1))) 16 rfl rfl (hon 16 (by kernel_rfl)) rfl
   replace ha := Aside0.mk ha
   have BG := Aside0.mk Q_BG
   have HB := Aside0.mk Q_HB
   refine value_ (w1 := w'.alloc (.cells (encA (List.replicate (n + 1) ⟨0, 0, 0, 0⟩)) 105)) (v := .slice (some ⟨w'.heap.size, 0, none⟩) (n + 1) (n + 1)) (by rfl) rfl ?_ ?_
   ·go_simp
    try rfl
   refine hK.out _ _ ⟨bs, bk, w'.heap.size, m5_, m11_, (Value.slice (some ⟨w'.heap.size, 0, none⟩) (n + 1) (n + 1)), m18_, m19_, m20_, (by rw [ha.out]; exact putSel_upk 17 hb_ rfl rfl rfl), (blk_alloc BG.out _), (below_alloc HB.out _), fun h0_ => ⟨blk_alloc (Q_Fbs h0_).1 _, (Q_Fbs h0_).2⟩, fun h0_ => ⟨blk_alloc (Q_Fbk h0_).1 _, (Q_Fbk h0_).2⟩, fun _ => ⟨blk_new _ _, HB.out.size⟩, Q_X5_, Q_X11_, fun _ => rfl, Q_X18_, Q_X19_, fun h0_ => absurd ((hoff 20 (by kernel_rfl)).symm.trans h0_) (by decide)⟩
  refine steps_cons ?_ ?_
  ·rintro b a w' ⟨bs, bk, bl, m5_, m11_, m17_, m18_, m19_, m20_, ha, Q_BG, Q_HB, Q_Fbs, Q_Fbk, Q_Fbl, Q_X5_, Q_X11_, Q_X17_, Q_X18_, Q_X19_, Q_X20_⟩ hb_ hon hoff
   refine ⟨_, rfl, fun K hK => ?_⟩
   have e22 : a.tmps[22]? = some (m5_) := by rw [ha]; exact putSel_on (e := (5, 22, m5_)) 5 rfl rfl (hon 5 (by kernel_rfl)) rfl
   rw [Q_X5_ (hon 5 (by kernel_rfl))] at e22
   replace ha := Aside0.mk ha
   have BG := Aside0.mk Q_BG
   have HB := Aside0.mk Q_HB
   have Fbs := Aside0.mk (Q_Fbs (hon 5 (by kernel_rfl)))
   refine value_ (w1 := w') (v := Value.slice (some ⟨bs, 0, none⟩) (n + 1) (n + 1)) (by rfl) rfl ?_ ?_
   ·go_simp
    (try simp only [i64_w])
    try rfl
   refine hK.out _ _ ⟨bs, bk, bl, m5_, m11_, m17_, (Value.slice (some ⟨bs, 0, none⟩) (n + 1) (n + 1)), m19_, m20_, (by rw [ha.out]; exact putSel_upk 18 hb_ rfl rfl rfl), Q_BG, Q_HB, Q_Fbs, Q_Fbk, Q_Fbl, Q_X5_, Q_X11_, Q_X17_, fun _ => rfl, fun h0_ => absurd ((hoff 19 (by kernel_rfl)).symm.trans h0_) (by decide), fun h0_ => absurd ((hoff 20 (by kernel_rfl)).symm.trans h0_) (by decide)⟩
  refine steps_cons ?_ ?_
  ·rintro b a w' ⟨bs, bk, bl, m5_, m11_, m17_, m18_, m19_, m20_, ha, Q_BG, Q_HB, Q_Fbs, Q_Fbk, Q_Fbl, Q_X5_, Q_X11_, Q_X17_, Q_X18_, Q_X19_, Q_X20_⟩ hb_ hon hoff
   refine ⟨_, rfl, fun K hK => ?_⟩
   have e28 : a.tmps[28]? = some (m11_) := by rw [ha]; exact putSel_on (e := (11, 28, m11_)) 11 rfl rfl (hon 11 (by kernel_rfl)) rfl
   rw [Q_X11_ (hon 11 (by kernel_rfl))] at e28
   replace ha := Aside0.mk ha
   have BG := Aside0.mk Q_BG
   have HB := Aside0.mk Q_HB
   have Fbs := Aside0.mk (Q_Fbs (hon 5 (by kernel_rfl)))
   have Fbk := Aside0.mk (Q_Fbk (hon 11 (by kernel_rfl)))
   refine value_ (w1 := w') (v := Value.slice (some ⟨bk, 0, none⟩) (n + 1) (n + 1)) (by rfl) rfl ?_ ?_
   ·go_simp
    (try simp only [i64_w])
    try rfl
   refine hK.out _ _ ⟨bs, bk, bl, m5_, m11_, m17_, m18_, (Value.slice (some ⟨bk, 0, none⟩) (n + 1) (n + 1)), m20_, (by rw [ha.out]; exact putSel_upk 19 hb_ rfl rfl rfl), Q_BG, Q_HB, Q_Fbs, Q_Fbk, Q_Fbl, Q_X5_, Q_X11_, Q_X17_, Q_X18_, fun _ => rfl, fun h0_ => absurd ((hoff 20 (by kernel_rfl)).symm.trans h0_) (by decide)⟩
  refine steps_cons ?_ ?_
  ·rintro b a w' ⟨bs, bk, bl, m5_, m11_, m17_, m18_, m19_, m20_, ha, Q_BG, Q_HB, Q_Fbs, Q_Fbk, Q_Fbl, Q_X5_, Q_X11_, Q_X17_, Q_X18_, Q_X19_, Q_X20_⟩ hb_ hon hoff
   refine ⟨_, rfl, fun K hK => ?_⟩
   have e34 : a.tmps[34]? = some (m17_) := by rw [ha]; exact putSel_on (e := (17, 34, m17_)) 17 rfl rfl (hon 17 (by kernel_rfl)) rfl
   rw [Q_X17_ (hon 17 (by kernel_rfl))] at e34
   replace ha := Aside0.mk ha
   have BG := Aside0.mk Q_BG
   have HB := Aside0.mk Q_HB
   have Fbs := Aside0.mk (Q_Fbs (hon 5 (by kernel_rfl)))
   have Fbk := Aside0.mk (Q_Fbk (hon 11 (by kernel_rfl)))
   have Fbl := Aside0.mk (Q_Fbl (hon 17 (by kernel_rfl)))
   refine value_ (w1 := w') (v := Value.slice (some ⟨bl, 0, none⟩) (n + 1) (n + 1)) (by rfl) rfl ?_ ?_
   ·go_simp
    (try simp only [i64_w])
    try rfl
   refine hK.out _ _ ⟨bs, bk, bl, m5_, m11_, m17_, m18_, m19_, (Value.slice (some ⟨bl, 0, none⟩) (n + 1) (n + 1)), (by rw [ha.out]; exact putSel_upk 20 hb_ rfl rfl rfl), Q_BG, Q_HB, Q_Fbs, Q_Fbk, Q_Fbl, Q_X5_, Q_X11_, Q_X17_, Q_X18_, Q_X19_, fun _ => rfl⟩
  exact steps_nil
 rintro b a w1 hall ⟨bs, bk, bl, m5_, m11_, m17_, m18_, m19_, m20_, ha, Q_BG, Q_HB, Q_Fbs, Q_Fbk, Q_Fbl, Q_X5_, Q_X11_, Q_X17_, Q_X18_, Q_X19_, Q_X20_⟩
 clear BG HB
 have hb0_ := hall 0 (by kernel_rfl)
 have hb1_ := hall 1 (by kernel_rfl)
 have hb2_ := hall 2 (by kernel_rfl)
 have hb3_ := hall 3 (by kernel_rfl)
 have hb4_ := hall 4 (by kernel_rfl)
 have hb5_ := hall 5 (by kernel_rfl)
 have hb6_ := hall 6 (by kernel_rfl)
 have hb7_ := hall 7 (by kernel_rfl)
 have hb8_ := hall 8 (by kernel_rfl)
 have hb9_ := hall 9 (by kernel_rfl)
 have hb10_ := hall 10 (by kernel_rfl)
 have hb11_ := hall 11 (by kernel_rfl)
 have hb12_ := hall 12 (by kernel_rfl)
 have hb13_ := hall 13 (by kernel_rfl)
 have hb14_ := hall 14 (by kernel_rfl)
 have hb15_ := hall 15 (by kernel_rfl)
 have hb16_ := hall 16 (by kernel_rfl)
 have hb17_ := hall 17 (by kernel_rfl)
 have hb18_ := hall 18 (by kernel_rfl)
 have hb19_ := hall 19 (by kernel_rfl)
 have hb20_ := hall 20 (by kernel_rfl)
 subst ha
 obtain rfl := Q_X5_ hb5_
 obtain rfl := Q_X11_ hb11_
 obtain rfl := Q_X17_ hb17_
 obtain rfl := Q_X18_ hb18_
 obtain rfl := Q_X19_ hb19_
 obtain rfl := Q_X20_ hb20_
 simp only [putSel, hb0_, hb1_, hb2_, hb3_, hb4_, hb5_, hb6_, hb7_, hb8_, hb9_, hb10_, hb11_, hb12_, hb13_, hb14_, hb15_, hb16_, hb17_, hb18_, hb19_, hb20_, if_true, Act.put, List.setIfInBounds_toArray, List.set_cons_zero, List.set_cons_succ]
 have BG := Aside0.mk Q_BG
 clear Q_BG
 have HB := Aside0.mk Q_HB
 clear Q_HB
 have Fbs := Aside0.mk (Q_Fbs hb5_)
 clear Q_Fbs
 have Fbk := Aside0.mk (Q_Fbk hb11_)
 clear Q_Fbk
 have Fbl := Aside0.mk (Q_Fbl hb17_)
 clear Q_Fbl
 clear hall hb0_ hb1_ hb2_ hb3_ hb4_ hb5_ hb6_ hb7_ hb8_ hb9_ hb10_ hb11_ hb12_ hb13_ hb14_ hb15_ hb16_ hb17_ hb18_ hb19_ hb20_
 clear Q_X5_ Q_X11_ Q_X17_ Q_X18_ Q_X19_ Q_X20_ HT_ HW_ hHeld b
 go_wp2
 refine start_ (n := 14) (S := fun w' => True) (ds := []) #[false, false, false, false, false, false, false, false, false, false, false, false, false, false] (by kernel_rfl) rfl rfl trivial (fun hHeld => ?_)
 refine with_tabW graph_far.tab2 graph_far.bits2 (fun HT_ HW_ => ?_)
 refine inv_at [0, 1, 2, 3, 4, 5, 6, 7, 8, 9, 10, 11, 12, 13] (fun a0_ b a w' => ∃ (bw : Nat) (bt : Nat) (m5_ : Value) (m11_ : Value) (m12_ : Value) (m13_ : Value), a = putSel a0_ b [(0, 35, .pointer (some (⟨g, 0, none⟩ : Addr))), (1, 36, .pointer (some (⟨g, 0, none⟩ : Addr))), (2, 37, .pointer (some (⟨g, 0, none⟩ : Addr))), (3, 38, .int .i64 (n : Int)), (4, 39, .int .i64 ((n : Int) + 1)), (5, 40, m5_), (6, 41, .pointer (some (⟨g, 0, none⟩ : Addr))), (7, 42, .pointer (some (⟨g, 0, none⟩ : Addr))), (8, 43, .pointer (some (⟨g, 0, none⟩ : Addr))), (9, 44, .int .i64 (n : Int)), (10, 45, .int .i64 ((n : Int) + 1)), (11, 46, m11_), (12, 8, m12_), (13, 9, m13_)] ∧ (w'.heap[g]? = some (.cells #[.int .i64 (n : Int), .slice (some ⟨ob, 0, none⟩) (n + 1) (n + 1)] 103 (0, 0))) ∧ (Below w.heap.size w w') ∧ (w'.heap[bs]? = some (.cells (encI (List.replicate (n + 1) 0)) 3 (0, 0)) ∧ w.heap.size ≤ bs) ∧ (w'.heap[bk]? = some (.cells (encB (List.replicate (n + 1) false)) 4 (0, 0)) ∧ w.heap.size ≤ bk) ∧ (w'.heap[bl]? = some (.cells (encA (List.replicate (n + 1) ⟨0, 0, 0, 0⟩)) 105 (0, 0)) ∧ w.heap.size ≤ bl) ∧ (b 5 = true → w'.heap[bw]? = some (.cells (encB (List.replicate (n + 1) false)) 4 (0, 0)) ∧ w.heap.size ≤ bw) ∧ (b 11 = true → w'.heap[bt]? = some (.cells (encI (List.replicate (n + 1) 0)) 3 (0, 0)) ∧ w.heap.size ≤ bt) ∧ (b 5 = true → bk ≠ bw) ∧ (b 11 = true → bs ≠ bt) ∧ (b 5 = true → (m5_ : Value) = Value.slice (some ⟨bw, 0, none⟩) (n + 1) (n + 1)) ∧ (b 11 = true → (m11_ : Value) = Value.slice (some ⟨bt, 0, none⟩) (n + 1) (n + 1)) ∧ (b 12 = true → (m12_ : Value) = Value.slice (some ⟨bw, 0, none⟩) (n + 1) (n + 1)) ∧ (b 13 = true → (m13_ : Value) = Value.slice (some ⟨bt, 0, none⟩) (n + 1) (n + 1))) HT_.out HW_.out (by kernel_rfl) (by kernel_rfl) ?_ ?_ ?_
 ·exact ⟨0, 0, .bool false, .bool false, .bool false, .bool false, by simp only [putSel, Bool.false_eq_true, if_false], (blk_drew BG.out), (below_drew HB.out), ⟨blk_drew Fbs.out.1, Fbs.out.2⟩, ⟨blk_drew Fbk.out.1, Fbk.out.2⟩, ⟨blk_drew Fbl.out.1, Fbl.out.2⟩, fun h_ => absurd h_ (by decide), fun h_ => absurd h_ (by decide), fun h_ => absurd h_ (by decide), fun h_ => absurd h_ (by decide), fun h_ => absurd h_ (by decide), fun h_ => absurd h_ (by decide), fun h_ => absurd h_ (by decide), fun h_ => absurd h_ (by decide)⟩
 ·skip
  clear BG Fbk Fbl Fbs HB
  refine steps_cons ?_ ?_
  ·rintro b a w' ⟨bw, bt, m5_, m11_, m12_, m13_, ha, Q_BG, Q_HB, Q_Fbs, Q_Fbk, Q_Fbl, Q_Fbw, Q_Fbt, Q_NKW, Q_NST, Q_X5_, Q_X11_, Q_X12_, Q_X13_⟩ hb_ hon hoff
   refine ⟨_, rfl, fun K hK => ?_⟩
   have e0 : a.tmps[0]? = some (.pointer (some (⟨g, 0, none⟩ : Addr))) := by rw [ha]; exact (putSel_off rfl).trans rfl
   replace ha := Aside0.mk ha
   have BG := Aside0.mk Q_BG
   have HB := Aside0.mk Q_HB
   have Fbs := Aside0.mk Q_Fbs
   have Fbk := Aside0.mk Q_Fbk
   have Fbl := Aside0.mk Q_Fbl
   refine value_ (w1 := w') (v := .pointer (some (⟨g, 0, none⟩ : Addr))) (by rfl) rfl ?_ ?_
   ·go_simp
    (try simp only [i64_w])
    try rfl
   refine hK.out _ _ ⟨bw, bt, m5_, m11_, m12_, m13_, (by rw [ha.out]; exact putSel_upk 0 hb_ rfl rfl rfl), Q_BG, Q_HB, Q_Fbs, Q_Fbk, Q_Fbl, fun h0_ => absurd ((hoff 5 (by kernel_rfl)).symm.trans h0_) (by decide), Q_Fbt, fun h0_ => absurd ((hoff 5 (by kernel_rfl)).symm.trans h0_) (by decide), Q_NST, fun h0_ => absurd ((hoff 5 (by kernel_rfl)).symm.trans h0_) (by decide), Q_X11_, fun h0_ => absurd ((hoff 12 (by kernel_rfl)).symm.trans h0_) (by decide), fun h0_ => absurd ((hoff 13 (by kernel_rfl)).symm.trans h0_) (by decide)⟩
  refine steps_cons ?_ ?_
  ·rintro b a w' ⟨bw, bt, m5_, m11_, m12_, m13_, ha, Q_BG, Q_HB, Q_Fbs, Q_Fbk, Q_Fbl, Q_Fbw, Q_Fbt, Q_NKW, Q_NST, Q_X5_, Q_X11_, Q_X12_, Q_X13_⟩ hb_ hon hoff
   refine ⟨_, rfl, fun K hK => ?_⟩
   have e35 : a.tmps[35]? = some (.pointer (some (⟨g, 0, none⟩ : Addr))) := by rw [ha]; exact putSel_on (e := (0, 35, .pointer (some (⟨g, 0, none⟩ : Addr)))) 0 rfl rfl (hon 0 (by kernel_rfl)) rfl
   replace ha := Aside0.mk ha
   have BG := Aside0.mk Q_BG
   have HB := Aside0.mk Q_HB
   have Fbs := Aside0.mk Q_Fbs
   have Fbk := Aside0.mk Q_Fbk
   have Fbl := Aside0.mk Q_Fbl
   refine value_ (w1 := w') (v := .pointer (some (⟨g, 0, none⟩ : Addr))) (by rfl) rfl ?_ ?_
   ·go_simp
    (try simp only [i64_w])
    try rfl
   refine hK.out _ _ ⟨bw, bt, m5_, m11_, m12_, m13_, (by rw [ha.out]; exact putSel_upk 1 hb_ rfl rfl rfl), Q_BG, Q_HB, Q_Fbs, Q_Fbk, Q_Fbl, fun h0_ => absurd ((hoff 5 (by kernel_rfl)).symm.trans h0_) (by decide), Q_Fbt, fun h0_ => absurd ((hoff 5 (by kernel_rfl)).symm.trans h0_) (by decide), Q_NST, fun h0_ => absurd ((hoff 5 (by kernel_rfl)).symm.trans h0_) (by decide), Q_X11_, fun h0_ => absurd ((hoff 12 (by kernel_rfl)).symm.trans h0_) (by decide), fun h0_ => absurd ((hoff 13 (by kernel_rfl)).symm.trans h0_) (by decide)⟩
  refine steps_cons ?_ ?_
  ·rintro b a w' ⟨bw, bt, m5_, m11_, m12_, m13_, ha, Q_BG, Q_HB, Q_Fbs, Q_Fbk, Q_Fbl, Q_Fbw, Q_Fbt, Q_NKW, Q_NST, Q_X5_, Q_X11_, Q_X12_, Q_X13_⟩ hb_ hon hoff
   refine ⟨_, rfl, fun K hK => ?_⟩
   have e36 : a.tmps[36]? = some (.pointer (some (⟨g, 0, none⟩ : Addr))) := by rw [ha]; exact putSel_on (e := (1, 36, .pointer (some (⟨g, 0, none⟩ : Addr)))) 1 rfl rfl (hon 1 (by kernel_rfl)) rfl
   replace ha := Aside0.mk ha
   have BG := Aside0.mk Q_BG
   have HB := Aside0.mk Q_HB
   have Fbs := Aside0.mk Q_Fbs
   have Fbk := Aside0.mk Q_Fbk
   have Fbl := Aside0.mk Q_Fbl
   refine value_ (w1 := w') (v := .pointer (some (⟨g, 0, none⟩ : Addr))) (by rfl) rfl ?_ ?_
   ·go_simp
    (try simp only [i64_w])
    try rfl
   refine hK.out _ _ ⟨bw, bt, m5_, m11_, m12_, m13_, (by rw [ha.out]; exact putSel_upk 2 hb_ rfl rfl rfl), Q_BG, Q_HB, Q_Fbs, Q_Fbk, Q_Fbl, fun h0_ => absurd ((hoff 5 (by kernel_rfl)).symm.trans h0_) (by decide), Q_Fbt, fun h0_ => absurd ((hoff 5 (by kernel_rfl)).symm.trans h0_) (by decide), Q_NST, fun h0_ => absurd ((hoff 5 (by kernel_rfl)).symm.trans h0_) (by decide), Q_X11_, fun h0_ => absurd ((hoff 12 (by kernel_rfl)).symm.trans h0_) (by decide), fun h0_ => absurd ((hoff 13 (by kernel_rfl)).symm.trans h0_) (by decide)⟩
  refine steps_cons ?_ ?_
  ·rintro b a w' ⟨bw, bt, m5_, m11_, m12_, m13_, ha, Q_BG, Q_HB, Q_Fbs, Q_Fbk, Q_Fbl, Q_Fbw, Q_Fbt, Q_NKW, Q_NST, Q_X5_, Q_X11_, Q_X12_, Q_X13_⟩ hb_ hon hoff
   refine ⟨_, rfl, fun K hK => ?_⟩
   have e37 : a.tmps[37]? = some (.pointer (some (⟨g, 0, none⟩ : Addr))) := by rw [ha]; exact putSel_on (e := (2, 37, .pointer (some (⟨g, 0, none⟩ : Addr)))) 2 rfl rfl (hon 2 (by kernel_rfl)) rfl
   replace ha := Aside0.mk ha
   have BG := Aside0.mk Q_BG
   have HB := Aside0.mk Q_HB
   have Fbs := Aside0.mk Q_Fbs
   have Fbk := Aside0.mk Q_Fbk
   have Fbl := Aside0.mk Q_Fbl
   have z_ : w'.cell? ⟨g, 0, none⟩ = some (.int .i64 (n : Int)) := (blk_cell BG.out 0).trans rfl
   refine value_ (w1 := w') (v := .int .i64 (n : Int)) (by rfl) rfl ?_ ?_
   ·go_simp
    (try simp only [i64_w])
    try rfl
   refine hK.out _ _ ⟨bw, bt, m5_, m11_, m12_, m13_, (by rw [ha.out]; exact putSel_upk 3 hb_ rfl rfl rfl), Q_BG, Q_HB, Q_Fbs, Q_Fbk, Q_Fbl, fun h0_ => absurd ((hoff 5 (by kernel_rfl)).symm.trans h0_) (by decide), Q_Fbt, fun h0_ => absurd ((hoff 5 (by kernel_rfl)).symm.trans h0_) (by decide), Q_NST, fun h0_ => absurd ((hoff 5 (by kernel_rfl)).symm.trans h0_) (by decide), Q_X11_, fun h0_ => absurd ((hoff 12 (by kernel_rfl)).symm.trans h0_) (by decide), fun h0_ => absurd ((hoff 13 (by kernel_rfl)).symm.trans h0_) (by decide)⟩
  refine steps_cons ?_ ?_
  ·rintro b a w' ⟨bw, bt, m5_, m11_, m12_, m13_, ha, Q_BG, Q_HB, Q_Fbs, Q_Fbk, Q_Fbl, Q_Fbw, Q_Fbt, Q_NKW, Q_NST, Q_X5_, Q_X11_, Q_X12_, Q_X13_⟩ hb_ hon hoff
   refine ⟨_, rfl, fun K hK => ?_⟩
   have e38 : a.tmps[38]? = some (.int .i64 (n : Int)) := by rw [ha]; exact putSel_on (e := (3, 38, .int .i64 (n : Int))) 3 rfl rfl (hon 3 (by kernel_rfl)) rfl
   replace ha := Aside0.mk ha
   have BG := Aside0.mk Q_BG
   have HB := Aside0.mk Q_HB
   have Fbs := Aside0.mk Q_Fbs
   have Fbk := Aside0.mk Q_Fbk
   have Fbl := Aside0.mk Q_Fbl
   refine value_ (w1 := w') (v := .int .i64 ((n : Int) + 1)) (by rfl) rfl ?_ ?_
   ·go_simp
    (try simp only [i64_w, HW1.out])
    try rfl
   refine hK.out _ _ ⟨bw, bt, m5_, m11_, m12_, m13_, (by rw [ha.out]; exact putSel_upk 4 hb_ rfl rfl rfl), BG.out, HB.out, Fbs.out, Fbk.out, Fbl.out, fun h0_ => absurd ((hoff 5 (by kernel_rfl)).symm.trans h0_) (by decide), fun h0_ => (Q_Fbt h0_), fun h0_ => absurd ((hoff 5 (by kernel_rfl)).symm.trans h0_) (by decide), fun h0_ => (Q_NST h0_), fun h0_ => absurd ((hoff 5 (by kernel_rfl)).symm.trans h0_) (by decide), Q_X11_, fun h0_ => absurd ((hoff 12 (by kernel_rfl)).symm.trans h0_) (by decide), fun h0_ => absurd ((hoff 13 (by kernel_rfl)).symm.trans h0_) (by decide)⟩
  refine steps_cons ?_ ?_
  ·rintro b a w' ⟨bw, bt, m5_, m11_, m12_, m13_, ha, Q_BG, Q_HB, Q_Fbs, Q_Fbk, Q_Fbl, Q_Fbw, Q_Fbt, Q_NKW, Q_NST, Q_X5_, Q_X11_, Q_X12_, Q_X13_⟩ hb_ hon hoff
   refine ⟨_, rfl, fun K hK => ?_⟩
   have e39 : a.tmps[39]? = some (.int .i64 ((n : Int) + 1)) := by rw [ha]; exact putSel_on (e := (4, 39, .int .i64 ((n : Int) + 1))) 4 rfl rfl (hon 4 (by kernel_rfl)) rfl
   replace ha := Aside0.mk ha
   have BG := Aside0.mk Q_BG
   have HB := Aside0.mk Q_HB
   have Fbs := Aside0.mk Q_Fbs
   have Fbk := Aside0.mk Q_Fbk
   have Fbl := Aside0.mk Q_Fbl
   refine value_ (w1 := w'.alloc (.cells (encB (List.replicate (n + 1) false)) 4)) (v := .slice (some ⟨w'.heap.size, 0, none⟩) (n + 1) (n + 1)) (by rfl) rfl ?_ ?_
   ·go_simp
    try rfl
   refine hK.out _ _ ⟨w'.heap.size, bt, (Value.slice (some ⟨w'.heap.size, 0, none⟩) (n + 1) (n + 1)), m11_, m12_, m13_, (by rw [ha.out]; exact putSel_upk 5 hb_ rfl rfl rfl), (blk_alloc BG.out _), (below_alloc HB.out _), ⟨blk_alloc Fbs.out.1 _, Fbs.out.2⟩, ⟨blk_alloc Fbk.out.1 _, Fbk.out.2⟩, ⟨blk_alloc Fbl.out.1 _, Fbl.out.2⟩, fun _ => ⟨blk_new _ _, HB.out.size⟩, fun h0_ => ⟨blk_alloc (Q_Fbt h0_).1 _, (Q_Fbt h0_).2⟩, fun _ => (Nat.ne_of_lt (blk_lt Fbk.out.1)), fun h0_ => (Q_NST h0_), fun _ => rfl, Q_X11_, fun h0_ => absurd ((hoff 12 (by kernel_rfl)).symm.trans h0_) (by decide), fun h0_ => absurd ((hoff 13 (by kernel_rfl)).symm.trans h0_) (by decide)⟩
  refine steps_cons ?_ ?_
  ·rintro b a w' ⟨bw, bt, m5_, m11_, m12_, m13_, ha, Q_BG, Q_HB, Q_Fbs, Q_Fbk, Q_Fbl, Q_Fbw, Q_Fbt, Q_NKW, Q_NST, Q_X5_, Q_X11_, Q_X12_, Q_X13_⟩ hb_ hon hoff
   refine ⟨_, rfl, fun K hK => ?_⟩
   have e0 : a.tmps[0]? = some (.pointer (some (⟨g, 0, none⟩ : Addr))) := by rw [ha]; exact (putSel_off rfl).trans rfl
   replace ha := Aside0.mk ha
   have BG := Aside0.mk Q_BG
   have HB := Aside0.mk Q_HB
   have Fbs := Aside0.mk Q_Fbs
   have Fbk := Aside0.mk Q_Fbk
   have Fbl := Aside0.mk Q_Fbl
   refine value_ (w1 := w') (v := .pointer (some (⟨g, 0, none⟩ : Addr))) (by rfl) rfl ?_ ?_
   ·go_simp
    (try simp only [i64_w])
    try rfl
   refine hK.out _ _ ⟨bw, bt, m5_, m11_, m12_, m13_, (by rw [ha.out]; exact putSel_upk 6 hb_ rfl rfl rfl), Q_BG, Q_HB, Q_Fbs, Q_Fbk, Q_Fbl, Q_Fbw, fun h0_ => absurd ((hoff 11 (by kernel_rfl)).symm.trans h0_) (by decide), Q_NKW, fun h0_ => absurd ((hoff 11 (by kernel_rfl)).symm.trans h0_) (by decide), Q_X5_, fun h0_ => absurd ((hoff 11 (by kernel_rfl)).symm.trans h0_) (by decide), Q_X12_, fun h0_ => absurd ((hoff 13 (by kernel_rfl)).symm.trans h0_) (by decide)⟩
  refine steps_cons ?_ ?_
  ·rintro b a w' ⟨bw, bt, m5_, m11_, m12_, m13_, ha, Q_BG, Q_HB, Q_Fbs, Q_Fbk, Q_Fbl, Q_Fbw, Q_Fbt, Q_NKW, Q_NST, Q_X5_, Q_X11_, Q_X12_, Q_X13_⟩ hb_ hon hoff
   refine ⟨_, rfl, fun K hK => ?_⟩
   have e41 : a.tmps[41]? = some (.pointer (some (⟨g, 0, none⟩ : Addr))) := by rw [ha]; exact putSel_on (e := (6, 41, .pointer (some (⟨g, 0, none⟩ : Addr)))) 6 rfl rfl (hon 6 (by kernel_rfl)) rfl
   replace ha := Aside0.mk ha
   have BG := Aside0.mk Q_BG
   have HB := Aside0.mk Q_HB
   have Fbs := Aside0.mk Q_Fbs
   have Fbk := Aside0.mk Q_Fbk
   have Fbl := Aside0.mk Q_Fbl
   refine value_ (w1 := w') (v := .pointer (some (⟨g, 0, none⟩ : Addr))) (by rfl) rfl ?_ ?_
   ·go_simp
    (try simp only [i64_w])
    try rfl
   refine hK.out _ _ ⟨bw, bt, m5_, m11_, m12_, m13_, (by rw [ha.out]; exact putSel_upk 7 hb_ rfl rfl rfl), Q_BG, Q_HB, Q_Fbs, Q_Fbk, Q_Fbl, Q_Fbw, fun h0_ => absurd ((hoff 11 (by kernel_rfl)).symm.trans h0_) (by decide), Q_NKW, fun h0_ => absurd ((hoff 11 (by kernel_rfl)).symm.trans h0_) (by decide), Q_X5_, fun h0_ => absurd ((hoff 11 (by kernel_rfl)).symm.trans h0_) (by decide), Q_X12_, fun h0_ => absurd ((hoff 13 (by kernel_rfl)).symm.trans h0_) (by decide)⟩
  refine steps_cons ?_ ?_
  ·rintro b a w' ⟨bw, bt, m5_, m11_, m12_, m13_, ha, Q_BG, Q_HB, Q_Fbs, Q_Fbk, Q_Fbl, Q_Fbw, Q_Fbt, Q_NKW, Q_NST, Q_X5_, Q_X11_, Q_X12_, Q_X13_⟩ hb_ hon hoff
   refine ⟨_, rfl, fun K hK => ?_⟩
   have e42 : a.tmps[42]? = some (.pointer (some (⟨g, 0, none⟩ : Addr))) := by rw [ha]; exact putSel_on (e := (7, 42, .pointer (some (⟨g, 0, none⟩ : Addr)))) 7 rfl rfl (hon 7 (by kernel_rfl)) rfl
   replace ha := Aside0.mk ha
   have BG := Aside0.mk Q_BG
   have HB := Aside0.mk Q_HB
   have Fbs := Aside0.mk Q_Fbs
   have Fbk := Aside0.mk Q_Fbk
   have Fbl := Aside0.mk Q_Fbl
   refine value_ (w1 := w') (v := .pointer (some (⟨g, 0, none⟩ : Addr))) (by rfl) rfl ?_ ?_
   ·go_simp
    (try simp only [i64_w])
    try rfl
   refine hK.out _ _ ⟨bw, bt, m5_, m11_, m12_, m13_, (by rw [ha.out]; exact putSel_upk 8 hb_ rfl rfl rfl), Q_BG, Q_HB, Q_Fbs, Q_Fbk, Q_Fbl, Q_Fbw, fun h0_ => absurd ((hoff 11 (by kernel_rfl)).symm.trans h0_) (by decide), Q_NKW, fun h0_ => absurd ((hoff 11 (by kernel_rfl)).symm.trans h0_) (by decide), Q_X5_, fun h0_ => absurd ((hoff 11 (by kernel_rfl)).symm.trans h0_) (by decide), Q_X12_, fun h0_ => absurd ((hoff 13 (by kernel_rfl)).symm.trans h0_) (by decide)⟩
  refine steps_cons ?_ ?_
  ·rintro b a w' ⟨bw, bt, m5_, m11_, m12_, m13_, ha, Q_BG, Q_HB, Q_Fbs, Q_Fbk, Q_Fbl, Q_Fbw, Q_Fbt, Q_NKW, Q_NST, Q_X5_, Q_X11_, Q_X12_, Q_X13_⟩ hb_ hon hoff
   refine ⟨_, rfl, fun K hK => ?_⟩
   have e43 : a.tmps[43]? = some (.pointer (some (⟨g, 0, none⟩ : Addr))) := by rw [ha]; exact putSel_on (e := (8, 43, .pointer (some (⟨g, 0, none⟩ : Addr)))) 8 rfl rfl (hon 8 (by kernel_rfl)) rfl
   replace ha := Aside0.mk ha
   have BG := Aside0.mk Q_BG
   have HB := Aside0.mk Q_HB
   have Fbs := Aside0.mk Q_Fbs
   have Fbk := Aside0.mk Q_Fbk
   have Fbl := Aside0.mk Q_Fbl
   have z_ : w'.cell? ⟨g, 0, none⟩ = some (.int .i64 (n : Int)) := (blk_cell BG.out 0).trans rfl
   refine value_ (w1 := w') (v := .int .i64 (n : Int)) (by rfl) rfl ?_ ?_
   ·go_simp
    (try simp only [i64_w])
    try rfl
   refine hK.out _ _ ⟨bw, bt, m5_, m11_, m12_, m13_, (by rw [ha.out]; exact putSel_upk 9 hb_ rfl rfl rfl), Q_BG, Q_HB, Q_Fbs, Q_Fbk, Q_Fbl, Q_Fbw, fun h0_ => absurd ((hoff 11 (by kernel_rfl)).symm.trans h0_) (by decide), Q_NKW, fun h0_ => absurd ((hoff 11 (by kernel_rfl)).symm.trans h0_) (by decide), Q_X5_, fun h0_ => absurd ((hoff 11 (by kernel_rfl)).symm.trans h0_) (by decide), Q_X12_, fun h0_ => absurd ((hoff 13 (by kernel_rfl)).symm.trans h0_) (by decide)⟩
  refine steps_cons ?_ ?_
  ·rintro b a w' ⟨bw, bt, m5_, m11_, m12_, m13_, ha, Q_BG, Q_HB, Q_Fbs, Q_Fbk, Q_Fbl, Q_Fbw, Q_Fbt, Q_NKW, Q_NST, Q_X5_, Q_X11_, Q_X12_, Q_X13_⟩ hb_ hon hoff
   refine ⟨_, rfl, fun K hK => ?_⟩
   have e44 : a.tmps[44]? = some (.int .i64 (n : Int)) := by rw [ha]; exact putSel_on (e := (9, 44, .int .i64 (n : Int))) 9 rfl rfl (hon 9 (by kernel_rfl)) rfl
   replace ha := Aside0.mk ha
   have BG := Aside0.mk Q_BG
   have HB := Aside0.mk Q_HB
   have Fbs := Aside0.mk Q_Fbs
   have Fbk := Aside0.mk Q_Fbk
   have Fbl := Aside0.mk Q_Fbl
   refine value_ (w1 := w') (v := .int .i64 ((n : Int) + 1)) (by rfl) rfl ?_ ?_
   ·go_simp
    (try simp only [i64_w, HW1.out])
    try rfl
   refine hK.out _ _ ⟨bw, bt, m5_, m11_, m12_, m13_, (by rw [ha.out]; exact putSel_upk 10 hb_ rfl rfl rfl), BG.out, HB.out, Fbs.out, Fbk.out, Fbl.out, fun h0_ => (Q_Fbw h0_), fun h0_ => absurd ((hoff 11 (by kernel_rfl)).symm.trans h0_) (by decide), fun h0_ => (Q_NKW h0_), fun h0_ => absurd ((hoff 11 (by kernel_rfl)).symm.trans h0_) (by decide), Q_X5_, fun h0_ => absurd ((hoff 11 (by kernel_rfl)).symm.trans h0_) (by decide), Q_X12_, fun h0_ => absurd ((hoff 13 (by kernel_rfl)).symm.trans h0_) (by decide)⟩
  refine steps_cons ?_ ?_
  ·rintro b a w' ⟨bw, bt, m5_, m11_, m12_, m13_, ha, Q_BG, Q_HB, Q_Fbs, Q_Fbk, Q_Fbl, Q_Fbw, Q_Fbt, Q_NKW, Q_NST, Q_X5_, Q_X11_, Q_X12_, Q_X13_⟩ hb_ hon hoff
   refine ⟨_, rfl, fun K hK => ?_⟩
   have e45 : a.tmps[45]? = some (.int .i64 ((n : Int) + 1)) := by rw [ha]; exact putSel_on (e := (10, 45, .int .i64 ((n : Int) + 1))) 10 rfl rfl (hon 10 (by kernel_rfl)) rfl
   replace ha := Aside0.mk ha
   have BG := Aside0.mk Q_BG
   have HB := Aside0.mk Q_HB
   have Fbs := Aside0.mk Q_Fbs
   have Fbk := Aside0.mk Q_Fbk
   have Fbl := Aside0.mk Q_Fbl
   refine value_ (w1 := w'.alloc (.cells (encI (List.replicate (n + 1) 0)) 3)) (v := .slice (some ⟨w'.heap.size, 0, none⟩) (n + 1) (n + 1)) (by rfl) rfl ?_ ?_
   ·go_simp
    try rfl
   refine hK.out _ _ ⟨bw, w'.heap.size, m5_, (Value.slice (some ⟨w'.heap.size, 0, none⟩) (n + 1) (n + 1)), m12_, m13_, (by rw [ha.out]; exact putSel_upk 11 hb_ rfl rfl rfl), (blk_alloc BG.out _), (below_alloc HB.out _), ⟨blk_alloc Fbs.out.1 _, Fbs.out.2⟩, ⟨blk_alloc Fbk.out.1 _, Fbk.out.2⟩, ⟨blk_alloc Fbl.out.1 _, Fbl.out.2⟩, fun h0_ => ⟨blk_alloc (Q_Fbw h0_).1 _, (Q_Fbw h0_).2⟩, fun _ => ⟨blk_new _ _, HB.out.size⟩, fun h0_ => (Q_NKW h0_), fun _ => (Nat.ne_of_lt (blk_lt Fbs.out.1)), Q_X5_, fun _ => rfl, Q_X12_, fun h0_ => absurd ((hoff 13 (by kernel_rfl)).symm.trans h0_) (by decide)⟩
  refine steps_cons ?_ ?_
  ·rintro b a w' ⟨bw, bt, m5_, m11_, m12_, m13_, ha, Q_BG, Q_HB, Q_Fbs, Q_Fbk, Q_Fbl, Q_Fbw, Q_Fbt, Q_NKW, Q_NST, Q_X5_, Q_X11_, Q_X12_, Q_X13_⟩ hb_ hon hoff
   refine ⟨_, rfl, fun K hK => ?_⟩
   have e40 : a.tmps[40]? = some (m5_) := by rw [ha]; exact putSel_on (e := (5, 40, m5_)) 5 rfl rfl (hon 5 (by kernel_rfl)) rfl
   rw [Q_X5_ (hon 5 (by kernel_rfl))] at e40
   replace ha := Aside0.mk ha
   have BG := Aside0.mk Q_BG
   have HB := Aside0.mk Q_HB
   have Fbs := Aside0.mk Q_Fbs
   have Fbk := Aside0.mk Q_Fbk
   have Fbl := Aside0.mk Q_Fbl
   have Fbw := Aside0.mk (Q_Fbw (hon 5 (by kernel_rfl)))
   have NKW := Aside0.mk (Q_NKW (hon 5 (by kernel_rfl)))
   refine value_ (w1 := w') (v := Value.slice (some ⟨bw, 0, none⟩) (n + 1) (n + 1)) (by rfl) rfl ?_ ?_
   ·go_simp
    (try simp only [i64_w])
    try rfl
   refine hK.out _ _ ⟨bw, bt, m5_, m11_, (Value.slice (some ⟨bw, 0, none⟩) (n + 1) (n + 1)), m13_, (by rw [ha.out]; exact putSel_upk 12 hb_ rfl rfl rfl), Q_BG, Q_HB, Q_Fbs, Q_Fbk, Q_Fbl, Q_Fbw, Q_Fbt, Q_NKW, Q_NST, Q_X5_, Q_X11_, fun _ => rfl, fun h0_ => absurd ((hoff 13 (by kernel_rfl)).symm.trans h0_) (by decide)⟩
  refine steps_cons ?_ ?_
  ·rintro b a w' ⟨bw, bt, m5_, m11_, m12_, m13_, ha, Q_BG, Q_HB, Q_Fbs, Q_Fbk, Q_Fbl, Q_Fbw, Q_Fbt, Q_NKW, Q_NST, Q_X5_, Q_X11_, Q_X12_, Q_X13_⟩ hb_ hon hoff
   refine ⟨_, rfl, fun K hK => ?_⟩
   have e46 : a.tmps[46]? = some (m11_) := by rw [ha]; exact putSel_on (e := (11, 46, m11_)) 11 rfl rfl (hon 11 (by kernel_rfl)) rfl
   rw [Q_X11_ (hon 11 (by kernel_rfl))] at e46
   replace ha := Aside0.mk ha
   have BG := Aside0.mk Q_BG
   have HB := Aside0.mk Q_HB
   have Fbs := Aside0.mk Q_Fbs
   have Fbk := Aside0.mk Q_Fbk
   have Fbl := Aside0.mk Q_Fbl
   have Fbw := Aside0.mk (Q_Fbw (hon 5 (by kernel_rfl)))
   have Fbt := Aside0.mk (Q_Fbt (hon 11 (by kernel_rfl)))
   have NKW := Aside0.mk (Q_NKW (hon 5 (by kernel_rfl)))
   have NST := Aside0.mk (Q_NST (hon 11 (by kernel_rfl)))
   refine value_ (w1 := w') (v := Value.slice (some ⟨bt, 0, none⟩) (n + 1) (n + 1)) (by rfl) rfl ?_ ?_
   ·go_simp
    (try simp only [i64_w])
    try rfl
   refine hK.out _ _ ⟨bw, bt, m5_, m11_, m12_, (Value.slice (some ⟨bt, 0, none⟩) (n + 1) (n + 1)), (by rw [ha.out]; exact putSel_upk 13 hb_ rfl rfl rfl), Q_BG, Q_HB, Q_Fbs, Q_Fbk, Q_Fbl, Q_Fbw, Q_Fbt, Q_NKW, Q_NST, Q_X5_, Q_X11_, Q_X12_, fun _ => rfl⟩
  exact steps_nil
 rintro b a w2 hall ⟨bw, bt, m5_, m11_, m12_, m13_, ha, Q_BG, Q_HB, Q_Fbs, Q_Fbk, Q_Fbl, Q_Fbw, Q_Fbt, Q_NKW, Q_NST, Q_X5_, Q_X11_, Q_X12_, Q_X13_⟩
 clear BG Fbk Fbl Fbs HB
 have hb0_ := hall 0 (by kernel_rfl)
 have hb1_ := hall 1 (by kernel_rfl)
 have hb2_ := hall 2 (by kernel_rfl)
 have hb3_ := hall 3 (by kernel_rfl)
 have hb4_ := hall 4 (by kernel_rfl)
 have hb5_ := hall 5 (by kernel_rfl)
 have hb6_ := hall 6 (by kernel_rfl)
 have hb7_ := hall 7 (by kernel_rfl)
 have hb8_ := hall 8 (by kernel_rfl)
 have hb9_ := hall 9 (by kernel_rfl)
 have hb10_ := hall 10 (by kernel_rfl)
 have hb11_ := hall 11 (by kernel_rfl)
 have hb12_ := hall 12 (by kernel_rfl)
 have hb13_ := hall 13 (by kernel_rfl)
 subst ha
 obtain rfl := Q_X5_ hb5_
 obtain rfl := Q_X11_ hb11_
 obtain rfl := Q_X12_ hb12_
 obtain rfl := Q_X13_ hb13_
 simp only [putSel, hb0_, hb1_, hb2_, hb3_, hb4_, hb5_, hb6_, hb7_, hb8_, hb9_, hb10_, hb11_, hb12_, hb13_, if_true, Act.put, List.setIfInBounds_toArray, List.set_cons_zero, List.set_cons_succ]
 have BG := Aside0.mk Q_BG
 clear Q_BG
 have HB := Aside0.mk Q_HB
 clear Q_HB
 have Fbs := Aside0.mk Q_Fbs
 clear Q_Fbs
 have Fbk := Aside0.mk Q_Fbk
 clear Q_Fbk
 have Fbl := Aside0.mk Q_Fbl
 clear Q_Fbl
 have Fbw := Aside0.mk (Q_Fbw hb5_)
 clear Q_Fbw
 have Fbt := Aside0.mk (Q_Fbt hb11_)
 clear Q_Fbt
 have NKW := Aside0.mk (Q_NKW hb5_)
 clear Q_NKW
 have NST := Aside0.mk (Q_NST hb11_)
 clear Q_NST
 clear hall hb0_ hb1_ hb2_ hb3_ hb4_ hb5_ hb6_ hb7_ hb8_ hb9_ hb10_ hb11_ hb12_ hb13_
 clear Q_X5_ Q_X11_ Q_X12_ Q_X13_ HT_ HW_ hHeld b
 clear hmk3 hmk4 hmk5 HW1
 have HF := Aside0.mk (show FarAt w w2 g ob n ⟨bs, bk, bl, bw, bt⟩ ⟨List.replicate (n + 1) 0, List.replicate (n + 1) false, lastN n 0, List.replicate (n + 1) false, List.replicate (n + 1) 0⟩ [] [] from
  ⟨HB.out, BG.out, Fbs.out.1, Fbk.out.1, Fbl.out.1, Fbw.out.1, Fbt.out.1, by simp, by simp, lastN_length n 0 (by omega), by simp, by simp, Fbs.out.2, Fbk.out.2, Fbl.out.2, Fbw.out.2, Fbt.out.2, HGG.out, NST.out, NKW.out, ⟨rfl, by simp, by simp, by simp⟩, by simp⟩)
 clear BG HB Fbs Fbk Fbl Fbw Fbt NKW NST HGG
 go_wp2
 go_loopg [49] (n + 1) (fun kq v49 w' => ∃ (i : Nat), v49 = .int .i64 (i : Int) ∧ Aside0 (kq + i = n + 1) ∧ Aside0 (FarAt w w' g ob n ⟨bs, bk, bl, bw, bt⟩ ⟨List.replicate (n + 1) 0, List.replicate (n + 1) false, lastN n i, List.replicate (n + 1) false, List.replicate (n + 1) 0⟩ [] []))
 case atStart => exact ⟨0, rfl, ⟨rfl⟩, HF⟩
 case round =>
  clear HF
  obtain ⟨i, rfl, HK, HF⟩ := hrel
  by_cases hlt : i < n + 1
  ·have zc : wr.cell? ⟨bl, i * 4 + 3, none⟩ = some (.int .i64 0) := (blk_cell HF.out.last _).trans (encA_get (lastN_get hlt)).2.2.2
   have zf : wr.frozen? ⟨bl, i * 4 + 3, none⟩ = false := blk_frozen HF.out.last _
   have HF2 := Aside0.mk (HF.out.putL3 i _ (-2) (lastN_get hlt))
   dsimp only at HF2
   rw [lastN_set hlt] at HF2
   go_wp2
   go_roundg (n - i)
   case measure => have := HK.out; omega
   case rel => exact ⟨i + 1, by go_num, ⟨by omega⟩, HF2⟩
  ·have HI := Aside0.mk (show i = n + 1 by have := HK.out; omega)
   have zc : wr.cell? ⟨bk, s, none⟩ = some (.bool false) := (blk_cell HF.out.known _).trans ((encB_get (by simp; omega)).trans (by rw [List.getD_eq_getElem?_getD, List.getElem?_replicate]; split <;> rfl))
   have zf : wr.frozen? ⟨bk, s, none⟩ = false := blk_frozen HF.out.known _
   have hix : ((s : Int) < (n : Int) + 1) = True := eq_true (by omega)
   go_wp2
   have HF2 := HF.out.putK s true
   rw [HI.out, lastN_end] at HF2
   have HF3 := HF2.first (s : Int) (by omega) hs1
   rw [World.size_setCell] at HF3
   clear HF
   have HF := Aside0.mk HF3
   replace H := Aside0.mk (show farL (n : Int) (s : Int) rows k ⟨List.replicate (n + 1) 0, (List.replicate (n + 1) false).set s true, List.replicate (n + 1) ⟨0, 0, 0, -2⟩, List.replicate (n + 1) false, List.replicate (n + 1) 0⟩ [(s : Int)] = some R from H.out)
   clear HF2 HF3 zc zf hix HK HI hlt hs0 hs1
   dsimp only at HF
   generalize (wr.setCell ⟨bk, s, none⟩ (.bool true)).alloc (.cells #[.int .i64 (s : Int), .pointer none] 129) = w3 at HF ⊢
   generalize World.heap wr = hp at HF ⊢
   generalize List.replicate (n + 1) (0 : Int) = l1 at HF H
   generalize (List.replicate (n + 1) false).set s true = l2 at HF H
   generalize List.replicate (n + 1) (⟨0, 0, 0, -2⟩ : S105) = l3 at HF H
   generalize List.replicate (n + 1) false = l4 at HF H
   clear w1 w2
   go_loopg [4, 5, 6, 11, 12] k (fun kq v4 v5 v6 v11 v12 w' => ∃ (st : FSt) (cl : List Nat) (q : List Int) (e : Nat), v4 = .slice (some ⟨bs, 0, none⟩) (n + 1) (n + 1) ∧ v5 = .slice (some ⟨bk, 0, none⟩) (n + 1) (n + 1) ∧ v6 = .slice (some ⟨bl, 0, none⟩) (n + 1) (n + 1) ∧ v11 = .pointer (cl.head?.map fun c => ⟨c, 0, none⟩) ∧ v12 = .pointer (some ⟨e, 0, none⟩) ∧ Aside0 (cl ≠ [] → cl.getLast? = some e) ∧ Aside0 (farL n s rows kq st q = some R) ∧ Aside0 (FarAt w w' g ob n ⟨bs, bk, bl, bw, bt⟩ st cl q))
   case atStart => exact ⟨_, _, _, _, rfl, rfl, rfl, rfl, rfl, ⟨fun _ => rfl⟩, H, HF⟩
   case round =>
    clear HF H
    obtain ⟨st, cl, q, e, rfl, rfl, rfl, rfl, rfl, HE, H, HF⟩ := hrel
    cases gk with
    | zero => exact absurd H.out (by simp [farL])
    | succ kk =>
    cases q with
    | nil =>
     have hcl : cl = [] := List.eq_nil_of_length_eq_zero HF.out.chain.len
     subst hcl
     have hR : FRes.done st = R := by have := H.out; simpa [farL] using this
     subst hR
     simp only [List.head?_nil, Option.map_none]
     go_wp2
     (try simp only [Exit.inBlock, Exit.then])
     refine bodyPost_ret (results_list (rs := [.tmp 4, .tmp 5, .tmp 6, .tmp 7]) rfl (by simp) (.tmp (.tmp (.tmp (.tmp .nil))))) rfl ?_
     exact ⟨_, _, _, _, rfl, ⟨bs, bk, bl, rfl, rfl, rfl, rfl, HF.out.sum, HF.out.known, HF.out.last, HF.out.lsum, HF.out.lknown, HF.out.llast, HF.out.gs, HF.out.gk, HF.out.gl⟩, HF.out.below⟩
    | cons x q =>
     obtain ⟨b1, cl, rfl⟩ : ∃ b1 cl2, cl = b1 :: cl2 := by
      cases cl with
      | nil => have := HF.out.chain.len; simp at this
      | cons b1 cl => exact ⟨b1, cl, rfl⟩
     have hx := HF.out.range x List.mem_cons_self
     obtain ⟨X, rfl⟩ := Int.eq_ofNat_of_zero_le hx.1
     have hXn : X < n + 1 := by omega
     have hX1 : ((X : Int) < (n : Int) + 1) = True := eq_true (by omega)
     clear hx
     have hcell := HF.out.chain.head
     have zb : wr.cell? ⟨b1, 0, none⟩ = some (.int .i64 (X : Int)) := (blk_cell hcell 0).trans rfl
     clear hcell
     have zw : wr.cell? ⟨bw, X, none⟩ = some (.bool (st.waits.getD X false)) := (blk_cell HF.out.waits X).trans (encB_get (by have := HF.out.lwaits; omega))
     have zf : wr.frozen? ⟨bw, X, none⟩ = false := blk_frozen HF.out.waits _
     have HF2 := Aside0.mk (HF.out.putW X false)
     obtain ⟨v, hv, hvr, hvc⟩ := HR.out.get X (by omega)
     obtain ⟨L, hL⟩ : ∃ L, rows.getD X [] = L := ⟨_, rfl⟩
     rw [hL] at hvr
     have HLA := Aside0.mk (show ∀ a ∈ L, 0 ≤ a.f1 ∧ a.f1 ≤ n from HA.out L (by
      have hXr : X < rows.length := by omega
      rw [List.getD_eq_getElem?_getD, List.getElem?_eq_getElem hXr] at hL
      exact hL ▸ List.getElem_mem hXr))
     have H2 := Aside0.mk (show (relax kk n s X L { st with waits := st.waits.set X false } q).bind (fun r => match r with | .inl l => some (.loop l) | .inr p => farL n s rows kk p.1 p.2) = some R by
      have := H.out; simp only [farL, Int.toNat_natCast, hL] at this; exact this)
     clear hL hv
     obtain ⟨A, c, hvA⟩ := Kd.R_slice hvr
     subst hvA
     have HL := Aside0.mk (Kd.R_reads' hvr).2.2
     have hL63 : L.length ≤ 9223372036854775807 := HL.out.2.1
     have zv := hvc
     clear hvr
     replace zv := (HF2.out.below.cell (World.block_lt_of_cell? w _ zv)).trans zv
     have zg : (wr.setCell ⟨bw, X, none⟩ (.bool false)).cell? ⟨g, 1, none⟩ = some (.slice (some ⟨ob, 0, none⟩) (n + 1) (n + 1)) := (blk_cell HF2.out.net 1).trans rfl
     simp only [List.head?_cons, Option.map_some]
     go_wp2
     have HE2 := Aside0.mk (HE.out (by simp))
     clear zb zw zf hvc zv zg H HF HE
     generalize wr.setCell ⟨bw, X, none⟩ (.bool false) = w4 at HF2 ⊢
     clear wr
     generalize ({ st with waits := st.waits.set X false } : FSt) = st2 at H2 HF2
     clear st
     go_loopg [4, 5, 6, 12, 85] L.length (fun kq v4 v5 v6 v12 v85 w' => ∃ (j : Nat) (st : FSt) (cl : List Nat) (q : List Int) (e : Nat), v4 = .slice (some ⟨bs, 0, none⟩) (n + 1) (n + 1) ∧ v5 = .slice (some ⟨bk, 0, none⟩) (n + 1) (n + 1) ∧ v6 = .slice (some ⟨bl, 0, none⟩) (n + 1) (n + 1) ∧ v12 = .pointer (some ⟨e, 0, none⟩) ∧ v85 = .int .i64 (j : Int) ∧ Aside0 (kq + j = L.length) ∧ Aside0 ((b1 :: cl).getLast? = some e) ∧
      Aside0 ((relax kk n s X (L.drop j) st q).bind (fun r => match r with | .inl l => some (.loop l) | .inr p => farL n s rows kk p.1 p.2) = some R) ∧ Aside0 (FarAt w w' g ob n ⟨bs, bk, bl, bw, bt⟩ st (b1 :: cl) ((X : Int) :: q)))
     case atStart => exact ⟨0, _, _, _, _, rfl, rfl, rfl, rfl, rfl, ⟨rfl⟩, HE2, H2, HF2⟩
     case round =>
      clear HF2 H2 HE2
      obtain ⟨j, st, cl, q, e, rfl, rfl, rfl, rfl, rfl, HK, HE, H, HF⟩ := hrel
      by_cases hlt : j < L.length
      ·have hdr := Aside0.mk (drop105 hlt)
       have HAJ := Aside0.mk (HLA.out _ (mem_rd105 hlt))
       obtain ⟨ad, e1, q0, q1, q2, q3⟩ := at_T105 HL.out (j : Int) (by omega) (by omega)
       subst e1
       replace q0 := (HF.out.below.cell (World.block_lt_of_cell? w _ q0)).trans q0
       replace q1 := (HF.out.below.cell (World.block_lt_of_cell? w _ q1)).trans q1
       replace q2 := (HF.out.below.cell (World.block_lt_of_cell? w _ q2)).trans q2
       replace q3 := (HF.out.below.cell (World.block_lt_of_cell? w _ q3)).trans q3
       simp only [Int.toNat_natCast] at q0 q1 q2 q3
       obtain ⟨a, ha⟩ : ∃ a, rd_T105 L j = a := ⟨_, rfl⟩
       rw [ha] at hdr HAJ q0 q1 q2 q3
       clear ha
       obtain ⟨a0, a1, aw, ab⟩ := a
       dsimp only at q0 q1 q2 q3 HAJ
       obtain ⟨t, ht⟩ := Int.eq_ofNat_of_zero_le HAJ.out.1
       subst ht
       have ht1 : t < n + 1 := by have := HAJ.out.2; omega
       have ht2 : ((t : Int) < (n : Int) + 1) = True := eq_true (by omega)
       clear HAJ
       have HN : (relax kk n s X (⟨a0, (t : Int), aw, ab⟩ :: L.drop (j + 1)) st q).bind (fun r => match r with | .inl l => some (.loop l) | .inr p => farL n s rows kk p.1 p.2) = some R := by rw [← hdr.out]; exact H.out
       replace HN := Aside0.mk HN
       clear H hdr
       go_upto_region 18 with fail
       have BT := Aside0.mk (blk_new wr (.cells #[.int .i64 a0, .int .i64 (t : Int), .int .i64 aw, .int .i64 ab] 105))
       have NBL := Aside0.mk (Nat.ne_of_gt (blk_lt HF.out.last))
       replace HF := Aside0.mk (HF.out.grow (below_alloc (Below.refl wr.heap.size wr) (.cells #[.int .i64 a0, .int .i64 (t : Int), .int .i64 aw, .int .i64 ab] 105)))
       clear q0 q1 q2 q3 HL
       generalize wr.alloc (.cells #[.int .i64 a0, .int .i64 (t : Int), .int .i64 aw, .int .i64 ab] 105) = w4 at HF BT ⊢
       generalize wr.heap.size = ba at BT NBL ⊢
       clear wr
       go_cut [85, 108] from 85 to 186 (fun v85 v108 wx => v85 = .int .i64 (j : Int) ∧ (∃ c : Bool, v108 = .bool c ∧ Aside0 (c = true ↔ (st.known.getD t false = true ∧ wrap64 (st.sum.getD X 0 + aw) ≤ st.sum.getD t 0))) ∧ Aside0 (FarAt w wx g ob n ⟨bs, bk, bl, bw, bt⟩ st (b1 :: cl) ((X : Int) :: q)) ∧ Aside0 (wx.heap[ba]? = some (.cells #[.int .i64 a0, .int .i64 (t : Int), .int .i64 aw, .int .i64 ab] 105 (0, 0))))
       case first =>
        have y1 : w4.cell? ⟨ba, 1, none⟩ = some (.int .i64 (t : Int)) := (blk_cell BT.out 1).trans rfl
        have y2 : w4.cell? ⟨ba, 2, none⟩ = some (.int .i64 aw) := (blk_cell BT.out 2).trans rfl
        have zk : w4.cell? ⟨bk, t, none⟩ = some (.bool (st.known.getD t false)) := (blk_cell HF.out.known t).trans (encB_get (by have := HF.out.lknown; omega))
        have zs : w4.cell? ⟨bs, t, none⟩ = some (.int .i64 (st.sum.getD t 0)) := (blk_cell HF.out.sum t).trans (encI_get (by have := HF.out.lsum; omega))
        have zx : w4.cell? ⟨bs, X, none⟩ = some (.int .i64 (st.sum.getD X 0)) := (blk_cell HF.out.sum X).trans (encI_get (by have := HF.out.lsum; omega))
        cases hkt : st.known.getD t false with
        | false =>
         rw [hkt] at zk
         replace hkt := Aside0.mk hkt
         go_wp2
         go_quiet (fail)
         go_wp2
         go_meet
         exact ⟨rfl, ⟨false, rfl, ⟨by rw [hkt.out]; simp⟩⟩, ⟨HF.out.drewN _⟩, ⟨BT.out⟩⟩
        | true =>
         rw [hkt] at zk
         replace hkt := Aside0.mk hkt
         go_wp2
         go_quiet (fail)
         go_wp2
         go_meet
         exact ⟨rfl, ⟨_, rfl, ⟨by rw [hkt.out]; simp⟩⟩, ⟨HF.out.drewN _⟩, ⟨BT.out⟩⟩
       case rest =>
       obtain ⟨rfl, ⟨cc, rfl, HC⟩, HF, BT⟩ := hcut
       rw [relax_cons] at HN
       cases cc with
       | true =>
        have H2 := HN.out
        rw [if_pos (HC.out.1 rfl)] at H2
        replace H2 := Aside0.mk H2
        clear HN HC
        go_wp2
        go_roundg (L.length - j - 1)
        case measure => have := HK.out; omega
        case rel => exact ⟨j + 1, st, cl, q, e, rfl, rfl, rfl, rfl, by go_num, ⟨by omega⟩, HE, H2, HF⟩
       | false =>
        have H2 := HN.out
        rw [if_neg (fun h => absurd (HC.out.2 h) (by decide))] at H2
        replace H2 := Aside0.mk H2
        clear HN HC
        have HX1 := Aside0.mk (encI_get (l := st.sum) (i := X) (by have := HF.out.lsum; omega))
        have HX2 := Aside0.mk (encI_get (l := st.steps) (i := X) (by have := HF.out.lsteps; omega))
        have HC1 := Aside0.mk (encI_get (l := st.sum) (i := t) (by have := HF.out.lsum; omega))
        have HC2 := Aside0.mk (encB_get (l := st.known) (i := t) (by have := HF.out.lknown; omega))
        have HC3 := Aside0.mk (encA_get (List.getElem?_eq_getElem (show t < st.last.length by have := HF.out.llast; omega)))
        have HC4 := Aside0.mk (encI_get (l := st.steps) (i := t) (by have := HF.out.lsteps; omega))
        have HL5 := Aside0.mk (fun (W : World) (h : W.heap[bl]? = some (.cells (encA st.last) 105 (0, 0))) => set4_put W bl st.last t ⟨a0, (t : Int), aw, ab⟩ (by have := HF.out.llast; omega) h)
        have HL4 := Aside0.mk (fun (W : World) (b : Nat) (h : b ≠ bl) => set4_far W bl (t * 4) (.int .i64 a0) (.int .i64 (t : Int)) (.int .i64 aw) (.int .i64 ab) b h)
        have BG := Aside0.mk HF.out.net
        have HB := Aside0.mk HF.out.below
        have WA := Aside0.mk HF.out.waits
        have CH := Aside0.mk HF.out.chain
        have S0 := Aside0.mk HF.out.sum
        have K0 := Aside0.mk HF.out.known
        have L0 := Aside0.mk HF.out.last
        have T0 := Aside0.mk HF.out.steps
        have GG := Aside0.mk HF.out.gg
        have GS := Aside0.mk HF.out.gs
        have GK := Aside0.mk HF.out.gk
        have GL := Aside0.mk HF.out.gl
        have GT := Aside0.mk HF.out.gt
        have NST := Aside0.mk HF.out.nst
        have NKW := Aside0.mk HF.out.nkw
        dsimp only at WA S0 K0 L0 T0 GS GK GL GT NST NKW
        have hu105 := Try.underlying105
        go_wp2
        refine start_ (n := 33) (S := fun w' => True) (ds := []) #[false, false, false, false, false, false, false, false, false, false, false, false, false, false, false, false, false, false, false, false, false, false, false, false, false, false, false, false, false, false, false, false, false] (by kernel_rfl) rfl rfl trivial (fun hHeld => ?_)
        refine with_tabW graph_far.tab19 graph_far.bits19 (fun HT_ HW_ => ?_)
        refine inv_at [0, 1, 2, 3, 4, 5, 6, 7, 8, 9, 10, 11, 12, 13, 14, 15, 16, 17, 18, 19, 20, 21, 22, 23, 24, 25, 26, 27, 28, 29, 30, 31, 32] (fun a0_ b a w' => a = putSel a0_ b [(0, 109, Value.slice (some ⟨bs, 0, none⟩) (n + 1) (n + 1)), (1, 110, .pointer (some ⟨ba, 1, none⟩)), (2, 111, .int .i64 (t : Int)), (3, 112, Value.slice (some ⟨bk, 0, none⟩) (n + 1) (n + 1)), (4, 113, .pointer (some ⟨ba, 1, none⟩)), (5, 114, .int .i64 (t : Int)), (6, 115, Value.slice (some ⟨bl, 0, none⟩) (n + 1) (n + 1)), (7, 116, .pointer (some ⟨ba, 1, none⟩)), (8, 117, .int .i64 (t : Int)), (9, 118, Value.slice (some ⟨bt, 0, none⟩) (n + 1) (n + 1)), (10, 119, .pointer (some ⟨ba, 1, none⟩)), (11, 120, .int .i64 (t : Int)), (12, 121, Value.slice (some ⟨bs, 0, none⟩) (n + 1) (n + 1)), (13, 122, .int .i64 (X : Int)), (14, 123, .pointer (some ⟨bs, X, none⟩)), (15, 124, .int .i64 (st.sum.getD X 0)), (16, 125, .pointer (some ⟨ba, 2, none⟩)), (17, 126, .int .i64 aw), (18, 127, .int .i64 (wrap64 (st.sum.getD X 0 + aw))), (19, 128, .agg #[.int .i64 a0, .int .i64 (t : Int), .int .i64 aw, .int .i64 ab]), (20, 129, Value.slice (some ⟨bt, 0, none⟩) (n + 1) (n + 1)), (21, 130, .int .i64 (X : Int)), (22, 131, .pointer (some ⟨bt, X, none⟩)), (23, 132, .int .i64 (st.steps.getD X 0)), (24, 133, .int .i64 (wrap64 (st.steps.getD X 0 + 1))), (25, 134, .pointer (some ⟨bs, t, none⟩)), (27, 135, .pointer (some ⟨bk, t, none⟩)), (29, 136, .pointer (some ⟨bl, (t * 4), none⟩)), (31, 137, .pointer (some ⟨bt, t, none⟩))] ∧ (w'.heap[g]? = some (.cells #[.int .i64 (n : Int), .slice (some ⟨ob, 0, none⟩) (n + 1) (n + 1)] 103 (0, 0))) ∧ (Below w.heap.size w w') ∧ (w'.heap[ba]? = some (.cells (#[.int .i64 a0, .int .i64 (t : Int), .int .i64 aw, .int .i64 ab]) 105 (0, 0))) ∧ (w'.heap[bw]? = some (.cells (encB st.waits) 4 (0, 0))) ∧ (Chain w' w.heap.size (b1 :: cl) ((X : Int) :: q)) ∧ (b 26 = false → w'.heap[bs]? = some (.cells (encI st.sum) 3 (0, 0))) ∧ (b 26 = true → w'.heap[bs]? = some (.cells (encI (st.sum.set t (wrap64 (st.sum.getD X 0 + aw)))) 3 (0, 0))) ∧ (b 28 = false → w'.heap[bk]? = some (.cells (encB st.known) 4 (0, 0))) ∧ (b 28 = true → w'.heap[bk]? = some (.cells (encB (st.known.set t true)) 4 (0, 0))) ∧ (b 30 = false → w'.heap[bl]? = some (.cells (encA st.last) 105 (0, 0))) ∧ (b 30 = true → w'.heap[bl]? = some (.cells (encA (st.last.set t ⟨a0, (t : Int), aw, ab⟩)) 105 (0, 0))) ∧ (b 32 = false → w'.heap[bt]? = some (.cells (encI st.steps) 3 (0, 0))) ∧ (b 32 = true → w'.heap[bt]? = some (.cells (encI (st.steps.set t (wrap64 (st.steps.getD X 0 + 1)))) 3 (0, 0)))) HT_.out HW_.out (by kernel_rfl) (by kernel_rfl) ?_ ?_ ?_
        ·exact ⟨by simp only [putSel, Bool.false_eq_true, if_false], (blk_drew BG.out), (below_drew HB.out), (blk_drew BT.out), (blk_drew WA.out), (CH.out.move (fun _ _ => rfl)), fun _ => (blk_drew S0.out), fun h_ => absurd h_ (by decide), fun _ => (blk_drew K0.out), fun h_ => absurd h_ (by decide), fun _ => (blk_drew L0.out), fun h_ => absurd h_ (by decide), fun _ => (blk_drew T0.out), fun h_ => absurd h_ (by decide)⟩
        ·skip
         clear BG BT CH HB K0 L0 S0 T0 WA
         refine steps_cons ?_ ?_
         ·rintro b a w' ⟨ha, Q_BG, Q_HB, Q_BT, Q_WA, Q_CH, Q_S0, Q_S1, Q_K0, Q_K1, Q_L0, Q_L1, Q_T0, Q_T1⟩ hb_ hon hoff
          refine ⟨_, rfl, fun K hK => ?_⟩
          have e4 : a.tmps[4]? = some (Value.slice (some ⟨bs, 0, none⟩) (n + 1) (n + 1)) := by rw [ha]; exact (putSel_off rfl).trans rfl
          replace ha := Aside0.mk ha
          have BG := Aside0.mk Q_BG
          have HB := Aside0.mk Q_HB
          have BT := Aside0.mk Q_BT
          have WA := Aside0.mk Q_WA
          have CH := Aside0.mk Q_CH
          have S0 := Aside0.mk (Q_S0 (hoff 26 (by kernel_rfl)))
          have K0 := Aside0.mk (Q_K0 (hoff 28 (by kernel_rfl)))
          have L0 := Aside0.mk (Q_L0 (hoff 30 (by kernel_rfl)))
          have T0 := Aside0.mk (Q_T0 (hoff 32 (by kernel_rfl)))
          refine value_ (w1 := w') (v := Value.slice (some ⟨bs, 0, none⟩) (n + 1) (n + 1)) (by rfl) rfl ?_ ?_
          ·go_simp
           (try simp only [i64_w])
           try rfl
          refine hK.out _ _ ⟨(by rw [ha.out]; exact putSel_upk 0 hb_ rfl rfl rfl), Q_BG, Q_HB, Q_BT, Q_WA, Q_CH, Q_S0, fun h0_ => absurd ((hoff 26 (by kernel_rfl)).symm.trans h0_) (by decide), Q_K0, fun h0_ => absurd ((hoff 28 (by kernel_rfl)).symm.trans h0_) (by decide), Q_L0, fun h0_ => absurd ((hoff 30 (by kernel_rfl)).symm.trans h0_) (by decide), Q_T0, fun h0_ => absurd ((hoff 32 (by kernel_rfl)).symm.trans h0_) (by decide)⟩
         refine steps_cons ?_ ?_
         ·rintro b a w' ⟨ha, Q_BG, Q_HB, Q_BT, Q_WA, Q_CH, Q_S0, Q_S1, Q_K0, Q_K1, Q_L0, Q_L1, Q_T0, Q_T1⟩ hb_ hon hoff
          refine ⟨_, rfl, fun K hK => ?_⟩
          have e15 : a.tmps[15]? = some (.pointer (some ⟨ba, 0, none⟩)) := by rw [ha]; exact (putSel_off rfl).trans rfl
          replace ha := Aside0.mk ha
          have BG := Aside0.mk Q_BG
          have HB := Aside0.mk Q_HB
          have BT := Aside0.mk Q_BT
          have WA := Aside0.mk Q_WA
          have CH := Aside0.mk Q_CH
          have S0 := Aside0.mk (Q_S0 (hoff 26 (by kernel_rfl)))
          have K0 := Aside0.mk (Q_K0 (hoff 28 (by kernel_rfl)))
          have L0 := Aside0.mk (Q_L0 (hoff 30 (by kernel_rfl)))
          have T0 := Aside0.mk (Q_T0 (hoff 32 (by kernel_rfl)))
          refine value_ (w1 := w') (v := .pointer (some ⟨ba, 1, none⟩)) (by rfl) rfl ?_ ?_
          ·go_simp
           (try simp only [i64_w])
           try rfl
          refine hK.out _ _ ⟨(by rw [ha.out]; exact putSel_upk 1 hb_ rfl rfl rfl), Q_BG, Q_HB, Q_BT, Q_WA, Q_CH, Q_S0, fun h0_ => absurd ((hoff 26 (by kernel_rfl)).symm.trans h0_) (by decide), Q_K0, fun h0_ => absurd ((hoff 28 (by kernel_rfl)).symm.trans h0_) (by decide), Q_L0, fun h0_ => absurd ((hoff 30 (by kernel_rfl)).symm.trans h0_) (by decide), Q_T0, fun h0_ => absurd ((hoff 32 (by kernel_rfl)).symm.trans h0_) (by decide)⟩
         refine steps_cons ?_ ?_
         ·rintro b a w' ⟨ha, Q_BG, Q_HB, Q_BT, Q_WA, Q_CH, Q_S0, Q_S1, Q_K0, Q_K1, Q_L0, Q_L1, Q_T0, Q_T1⟩ hb_ hon hoff
          refine ⟨_, rfl, fun K hK => ?_⟩
          have e110 : a.tmps[110]? = some (.pointer (some ⟨ba, 1, none⟩)) := by rw [ha]; exact putSel_on (e := (1, 110, .pointer (some ⟨ba, 1, none⟩))) 1 rfl rfl (hon 1 (by kernel_rfl)) rfl
          replace ha := Aside0.mk ha
          have BG := Aside0.mk Q_BG
          have HB := Aside0.mk Q_HB
          have BT := Aside0.mk Q_BT
          have WA := Aside0.mk Q_WA
          have CH := Aside0.mk Q_CH
          have S0 := Aside0.mk (Q_S0 (hoff 26 (by kernel_rfl)))
          have K0 := Aside0.mk (Q_K0 (hoff 28 (by kernel_rfl)))
          have L0 := Aside0.mk (Q_L0 (hoff 30 (by kernel_rfl)))
          have T0 := Aside0.mk (Q_T0 (hoff 32 (by kernel_rfl)))
          have z_ : w'.cell? ⟨ba, 1, none⟩ = some (.int .i64 (t : Int)) := (blk_cell BT.out 1).trans rfl
          refine value_ (w1 := w') (v := .int .i64 (t : Int)) (by rfl) rfl ?_ ?_
          ·go_simp
           (try simp only [i64_w])
           try rfl
          refine hK.out _ _ ⟨(by rw [ha.out]; exact putSel_upk 2 hb_ rfl rfl rfl), Q_BG, Q_HB, Q_BT, Q_WA, Q_CH, Q_S0, fun h0_ => absurd ((hoff 26 (by kernel_rfl)).symm.trans h0_) (by decide), Q_K0, fun h0_ => absurd ((hoff 28 (by kernel_rfl)).symm.trans h0_) (by decide), Q_L0, fun h0_ => absurd ((hoff 30 (by kernel_rfl)).symm.trans h0_) (by decide), Q_T0, fun h0_ => absurd ((hoff 32 (by kernel_rfl)).symm.trans h0_) (by decide)⟩
         refine steps_cons ?_ ?_
         ·rintro b a w' ⟨ha, Q_BG, Q_HB, Q_BT, Q_WA, Q_CH, Q_S0, Q_S1, Q_K0, Q_K1, Q_L0, Q_L1, Q_T0, Q_T1⟩ hb_ hon hoff
          refine ⟨_, rfl, fun K hK => ?_⟩
          have e5 : a.tmps[5]? = some (Value.slice (some ⟨bk, 0, none⟩) (n + 1) (n + 1)) := by rw [ha]; exact (putSel_off rfl).trans rfl
          replace ha := Aside0.mk ha
          have BG := Aside0.mk Q_BG
          have HB := Aside0.mk Q_HB
          have BT := Aside0.mk Q_BT
          have WA := Aside0.mk Q_WA
          have CH := Aside0.mk Q_CH
          have K0 := Aside0.mk (Q_K0 (hoff 28 (by kernel_rfl)))
          have L0 := Aside0.mk (Q_L0 (hoff 30 (by kernel_rfl)))
          have T0 := Aside0.mk (Q_T0 (hoff 32 (by kernel_rfl)))
          refine value_ (w1 := w') (v := Value.slice (some ⟨bk, 0, none⟩) (n + 1) (n + 1)) (by rfl) rfl ?_ ?_
          ·go_simp
           (try simp only [i64_w])
           try rfl
          refine hK.out _ _ ⟨(by rw [ha.out]; exact putSel_upk 3 hb_ rfl rfl rfl), Q_BG, Q_HB, Q_BT, Q_WA, Q_CH, Q_S0, Q_S1, Q_K0, fun h0_ => absurd ((hoff 28 (by kernel_rfl)).symm.trans h0_) (by decide), Q_L0, fun h0_ => absurd ((hoff 30 (by kernel_rfl)).symm.trans h0_) (by decide), Q_T0, fun h0_ => absurd ((hoff 32 (by kernel_rfl)).symm.trans h0_) (by decide)⟩
         refine steps_cons ?_ ?_
         ·rintro b a w' ⟨ha, Q_BG, Q_HB, Q_BT, Q_WA, Q_CH, Q_S0, Q_S1, Q_K0, Q_K1, Q_L0, Q_L1, Q_T0, Q_T1⟩ hb_ hon hoff
          refine ⟨_, rfl, fun K hK => ?_⟩
          have e15 : a.tmps[15]? = some (.pointer (some ⟨ba, 0, none⟩)) := by rw [ha]; exact (putSel_off rfl).trans rfl
          replace ha := Aside0.mk ha
          have BG := Aside0.mk Q_BG
          have HB := Aside0.mk Q_HB
          have BT := Aside0.mk Q_BT
          have WA := Aside0.mk Q_WA
          have CH := Aside0.mk Q_CH
          have K0 := Aside0.mk (Q_K0 (hoff 28 (by kernel_rfl)))
          have L0 := Aside0.mk (Q_L0 (hoff 30 (by kernel_rfl)))
          have T0 := Aside0.mk (Q_T0 (hoff 32 (by kernel_rfl)))
          refine value_ (w1 := w') (v := .pointer (some ⟨ba, 1, none⟩)) (by rfl) rfl ?_ ?_
          ·go_simp
           (try simp only [i64_w])
           try rfl
          refine hK.out _ _ ⟨(by rw [ha.out]; exact putSel_upk 4 hb_ rfl rfl rfl), Q_BG, Q_HB, Q_BT, Q_WA, Q_CH, Q_S0, Q_S1, Q_K0, fun h0_ => absurd ((hoff 28 (by kernel_rfl)).symm.trans h0_) (by decide), Q_L0, fun h0_ => absurd ((hoff 30 (by kernel_rfl)).symm.trans h0_) (by decide), Q_T0, fun h0_ => absurd ((hoff 32 (by kernel_rfl)).symm.trans h0_) (by decide)⟩
         refine steps_cons ?_ ?_
         ·rintro b a w' ⟨ha, Q_BG, Q_HB, Q_BT, Q_WA, Q_CH, Q_S0, Q_S1, Q_K0, Q_K1, Q_L0, Q_L1, Q_T0, Q_T1⟩ hb_ hon hoff
          refine ⟨_, rfl, fun K hK => ?_⟩
          have e113 : a.tmps[113]? = some (.pointer (some ⟨ba, 1, none⟩)) := by rw [ha]; exact putSel_on (e := (4, 113, .pointer (some ⟨ba, 1, none⟩))) 4 rfl rfl (hon 4 (by kernel_rfl)) rfl
          replace ha := Aside0.mk ha
          have BG := Aside0.mk Q_BG
          have HB := Aside0.mk Q_HB
          have BT := Aside0.mk Q_BT
          have WA := Aside0.mk Q_WA
          have CH := Aside0.mk Q_CH
          have K0 := Aside0.mk (Q_K0 (hoff 28 (by kernel_rfl)))
          have L0 := Aside0.mk (Q_L0 (hoff 30 (by kernel_rfl)))
          have T0 := Aside0.mk (Q_T0 (hoff 32 (by kernel_rfl)))
          have z_ : w'.cell? ⟨ba, 1, none⟩ = some (.int .i64 (t : Int)) := (blk_cell BT.out 1).trans rfl
          refine value_ (w1 := w') (v := .int .i64 (t : Int)) (by rfl) rfl ?_ ?_
          ·go_simp
           (try simp only [i64_w])
           try rfl
          refine hK.out _ _ ⟨(by rw [ha.out]; exact putSel_upk 5 hb_ rfl rfl rfl), Q_BG, Q_HB, Q_BT, Q_WA, Q_CH, Q_S0, Q_S1, Q_K0, fun h0_ => absurd ((hoff 28 (by kernel_rfl)).symm.trans h0_) (by decide), Q_L0, fun h0_ => absurd ((hoff 30 (by kernel_rfl)).symm.trans h0_) (by decide), Q_T0, fun h0_ => absurd ((hoff 32 (by kernel_rfl)).symm.trans h0_) (by decide)⟩
         refine steps_cons ?_ ?_
         ·rintro b a w' ⟨ha, Q_BG, Q_HB, Q_BT, Q_WA, Q_CH, Q_S0, Q_S1, Q_K0, Q_K1, Q_L0, Q_L1, Q_T0, Q_T1⟩ hb_ hon hoff
          refine ⟨_, rfl, fun K hK => ?_⟩
          have e6 : a.tmps[6]? = some (Value.slice (some ⟨bl, 0, none⟩) (n + 1) (n + 1)) := by rw [ha]; exact (putSel_off rfl).trans rfl
          replace ha := Aside0.mk ha
          have BG := Aside0.mk Q_BG
          have HB := Aside0.mk Q_HB
          have BT := Aside0.mk Q_BT
          have WA := Aside0.mk Q_WA
          have CH := Aside0.mk Q_CH
          have L0 := Aside0.mk (Q_L0 (hoff 30 (by kernel_rfl)))
          have T0 := Aside0.mk (Q_T0 (hoff 32 (by kernel_rfl)))
          refine value_ (w1 := w') (v := Value.slice (some ⟨bl, 0, none⟩) (n + 1) (n + 1)) (by rfl) rfl ?_ ?_
          ·go_simp
           (try simp only [i64_w])
           try rfl
          refine hK.out _ _ ⟨(by rw [ha.out]; exact putSel_upk 6 hb_ rfl rfl rfl), Q_BG, Q_HB, Q_BT, Q_WA, Q_CH, Q_S0, Q_S1, Q_K0, Q_K1, Q_L0, fun h0_ => absurd ((hoff 30 (by kernel_rfl)).symm.trans h0_) (by decide), Q_T0, fun h0_ => absurd ((hoff 32 (by kernel_rfl)).symm.trans h0_) (by decide)⟩
         refine steps_cons ?_ ?_
         ·rintro b a w' ⟨ha, Q_BG, Q_HB, Q_BT, Q_WA, Q_CH, Q_S0, Q_S1, Q_K0, Q_K1, Q_L0, Q_L1, Q_T0, Q_T1⟩ hb_ hon hoff
          refine ⟨_, rfl, fun K hK => ?_⟩
          have e15 : a.tmps[15]? = some (.pointer (some ⟨ba, 0, none⟩)) := by rw [ha]; exact (putSel_off rfl).trans rfl
          replace ha := Aside0.mk ha
          have BG := Aside0.mk Q_BG
          have HB := Aside0.mk Q_HB
          have BT := Aside0.mk Q_BT
          have WA := Aside0.mk Q_WA
          have CH := Aside0.mk Q_CH
          have L0 := Aside0.mk (Q_L0 (hoff 30 (by kernel_rfl)))
          have T0 := Aside0.mk (Q_T0 (hoff 32 (by kernel_rfl)))
          refine value_ (w1 := w') (v := .pointer (some ⟨ba, 1, none⟩)) (by rfl) rfl ?_ ?_
          ·go_simp
           (try simp only [i64_w])
           try rfl
          refine hK.out _ _ ⟨(by rw [ha.out]; exact putSel_upk 7 hb_ rfl rfl rfl), Q_BG, Q_HB, Q_BT, Q_WA, Q_CH, Q_S0, Q_S1, Q_K0, Q_K1, Q_L0, fun h0_ => absurd ((hoff 30 (by kernel_rfl)).symm.trans h0_) (by decide), Q_T0, fun h0_ => absurd ((hoff 32 (by kernel_rfl)).symm.trans h0_) (by decide)⟩
         refine steps_cons ?_ ?_
         ·rintro b a w' ⟨ha, Q_BG, Q_HB, Q_BT, Q_WA, Q_CH, Q_S0, Q_S1, Q_K0, Q_K1, Q_L0, Q_L1, Q_T0, Q_T1⟩ hb_ hon hoff
          refine ⟨_, rfl, fun K hK => ?_⟩
          have e116 : a.tmps[116]? = some (.pointer (some ⟨ba, 1, none⟩)) := by rw [ha]; exact putSel_on (e := (7, 116, .pointer (some ⟨ba, 1, none⟩))) 7 rfl rfl (hon 7 (by kernel_rfl)) rfl
          replace ha := Aside0.mk ha
          have BG := Aside0.mk Q_BG
          have HB := Aside0.mk Q_HB
          have BT := Aside0.mk Q_BT
          have WA := Aside0.mk Q_WA
          have CH := Aside0.mk Q_CH
          have L0 := Aside0.mk (Q_L0 (hoff 30 (by kernel_rfl)))
          have T0 := Aside0.mk (Q_T0 (hoff 32 (by kernel_rfl)))
          have z_ : w'.cell? ⟨ba, 1, none⟩ = some (.int .i64 (t : Int)) := (blk_cell BT.out 1).trans rfl
          refine value_ (w1 := w') (v := .int .i64 (t : Int)) (by rfl) rfl ?_ ?_
          ·go_simp
           (try simp only [i64_w])
           try rfl
          refine hK.out _ _ ⟨(by rw [ha.out]; exact putSel_upk 8 hb_ rfl rfl rfl), Q_BG, Q_HB, Q_BT, Q_WA, Q_CH, Q_S0, Q_S1, Q_K0, Q_K1, Q_L0, fun h0_ => absurd ((hoff 30 (by kernel_rfl)).symm.trans h0_) (by decide), Q_T0, fun h0_ => absurd ((hoff 32 (by kernel_rfl)).symm.trans h0_) (by decide)⟩
         refine steps_cons ?_ ?_
         ·rintro b a w' ⟨ha, Q_BG, Q_HB, Q_BT, Q_WA, Q_CH, Q_S0, Q_S1, Q_K0, Q_K1, Q_L0, Q_L1, Q_T0, Q_T1⟩ hb_ hon hoff
          refine ⟨_, rfl, fun K hK => ?_⟩
          have e9 : a.tmps[9]? = some (Value.slice (some ⟨bt, 0, none⟩) (n + 1) (n + 1)) := by rw [ha]; exact (putSel_off rfl).trans rfl
          replace ha := Aside0.mk ha
          have BG := Aside0.mk Q_BG
          have HB := Aside0.mk Q_HB
          have BT := Aside0.mk Q_BT
          have WA := Aside0.mk Q_WA
          have CH := Aside0.mk Q_CH
          have T0 := Aside0.mk (Q_T0 (hoff 32 (by kernel_rfl)))
          refine value_ (w1 := w') (v := Value.slice (some ⟨bt, 0, none⟩) (n + 1) (n + 1)) (by rfl) rfl ?_ ?_
          ·go_simp
           (try simp only [i64_w])
           try rfl
          refine hK.out _ _ ⟨(by rw [ha.out]; exact putSel_upk 9 hb_ rfl rfl rfl), Q_BG, Q_HB, Q_BT, Q_WA, Q_CH, Q_S0, Q_S1, Q_K0, Q_K1, Q_L0, Q_L1, Q_T0, fun h0_ => absurd ((hoff 32 (by kernel_rfl)).symm.trans h0_) (by decide)⟩
         refine steps_cons ?_ ?_
         ·rintro b a w' ⟨ha, Q_BG, Q_HB, Q_BT, Q_WA, Q_CH, Q_S0, Q_S1, Q_K0, Q_K1, Q_L0, Q_L1, Q_T0, Q_T1⟩ hb_ hon hoff
          refine ⟨_, rfl, fun K hK => ?_⟩
          have e15 : a.tmps[15]? = some (.pointer (some ⟨ba, 0, none⟩)) := by rw [ha]; exact (putSel_off rfl).trans rfl
          replace ha := Aside0.mk ha
          have BG := Aside0.mk Q_BG
          have HB := Aside0.mk Q_HB
          have BT := Aside0.mk Q_BT
          have WA := Aside0.mk Q_WA
          have CH := Aside0.mk Q_CH
          have T0 := Aside0.mk (Q_T0 (hoff 32 (by kernel_rfl)))
          refine value_ (w1 := w') (v := .pointer (some ⟨ba, 1, none⟩)) (by rfl) rfl ?_ ?_
          ·go_simp
           (try simp only [i64_w])
           try rfl
          refine hK.out _ _ ⟨(by rw [ha.out]; exact putSel_upk 10 hb_ rfl rfl rfl), Q_BG, Q_HB, Q_BT, Q_WA, Q_CH, Q_S0, Q_S1, Q_K0, Q_K1, Q_L0, Q_L1, Q_T0, fun h0_ => absurd ((hoff 32 (by kernel_rfl)).symm.trans h0_) (by decide)⟩
         refine steps_cons ?_ ?_
         ·rintro b a w' ⟨ha, Q_BG, Q_HB, Q_BT, Q_WA, Q_CH, Q_S0, Q_S1, Q_K0, Q_K1, Q_L0, Q_L1, Q_T0, Q_T1⟩ hb_ hon hoff
          refine ⟨_, rfl, fun K hK => ?_⟩
          have e119 : a.tmps[119]? = some (.pointer (some ⟨ba, 1, none⟩)) := by rw [ha]; exact putSel_on (e := (10, 119, .pointer (some ⟨ba, 1, none⟩))) 10 rfl rfl (hon 10 (by kernel_rfl)) rfl
          replace ha := Aside0.mk ha
          have BG := Aside0.mk Q_BG
          have HB := Aside0.mk Q_HB
          have BT := Aside0.mk Q_BT
          have WA := Aside0.mk Q_WA
          have CH := Aside0.mk Q_CH
          have T0 := Aside0.mk (Q_T0 (hoff 32 (by kernel_rfl)))
          have z_ : w'.cell? ⟨ba, 1, none⟩ = some (.int .i64 (t : Int)) := (blk_cell BT.out 1).trans rfl
          refine value_ (w1 := w') (v := .int .i64 (t : Int)) (by rfl) rfl ?_ ?_
          ·go_simp
           (try simp only [i64_w])
           try rfl
          refine hK.out _ _ ⟨(by rw [ha.out]; exact putSel_upk 11 hb_ rfl rfl rfl), Q_BG, Q_HB, Q_BT, Q_WA, Q_CH, Q_S0, Q_S1, Q_K0, Q_K1, Q_L0, Q_L1, Q_T0, fun h0_ => absurd ((hoff 32 (by kernel_rfl)).symm.trans h0_) (by decide)⟩
         refine steps_cons ?_ ?_
         ·rintro b a w' ⟨ha, Q_BG, Q_HB, Q_BT, Q_WA, Q_CH, Q_S0, Q_S1, Q_K0, Q_K1, Q_L0, Q_L1, Q_T0, Q_T1⟩ hb_ hon hoff
          refine ⟨_, rfl, fun K hK => ?_⟩
          have e4 : a.tmps[4]? = some (Value.slice (some ⟨bs, 0, none⟩) (n + 1) (n + 1)) := by rw [ha]; exact (putSel_off rfl).trans rfl
          replace ha := Aside0.mk ha
          have BG := Aside0.mk Q_BG
          have HB := Aside0.mk Q_HB
          have BT := Aside0.mk Q_BT
          have WA := Aside0.mk Q_WA
          have CH := Aside0.mk Q_CH
          have S0 := Aside0.mk (Q_S0 (hoff 26 (by kernel_rfl)))
          have K0 := Aside0.mk (Q_K0 (hoff 28 (by kernel_rfl)))
          have L0 := Aside0.mk (Q_L0 (hoff 30 (by kernel_rfl)))
          have T0 := Aside0.mk (Q_T0 (hoff 32 (by kernel_rfl)))
          refine value_ (w1 := w') (v := Value.slice (some ⟨bs, 0, none⟩) (n + 1) (n + 1)) (by rfl) rfl ?_ ?_
          ·go_simp
           (try simp only [i64_w])
           try rfl
          refine hK.out _ _ ⟨(by rw [ha.out]; exact putSel_upk 12 hb_ rfl rfl rfl), Q_BG, Q_HB, Q_BT, Q_WA, Q_CH, Q_S0, fun h0_ => absurd ((hoff 26 (by kernel_rfl)).symm.trans h0_) (by decide), Q_K0, fun h0_ => absurd ((hoff 28 (by kernel_rfl)).symm.trans h0_) (by decide), Q_L0, fun h0_ => absurd ((hoff 30 (by kernel_rfl)).symm.trans h0_) (by decide), Q_T0, fun h0_ => absurd ((hoff 32 (by kernel_rfl)).symm.trans h0_) (by decide)⟩
         refine steps_cons ?_ ?_
         ·rintro b a w' ⟨ha, Q_BG, Q_HB, Q_BT, Q_WA, Q_CH, Q_S0, Q_S1, Q_K0, Q_K1, Q_L0, Q_L1, Q_T0, Q_T1⟩ hb_ hon hoff
          refine ⟨_, rfl, fun K hK => ?_⟩
          have e13 : a.tmps[13]? = some (.int .i64 (X : Int)) := by rw [ha]; exact (putSel_off rfl).trans rfl
          replace ha := Aside0.mk ha
          have BG := Aside0.mk Q_BG
          have HB := Aside0.mk Q_HB
          have BT := Aside0.mk Q_BT
          have WA := Aside0.mk Q_WA
          have CH := Aside0.mk Q_CH
          have S0 := Aside0.mk (Q_S0 (hoff 26 (by kernel_rfl)))
          have K0 := Aside0.mk (Q_K0 (hoff 28 (by kernel_rfl)))
          have L0 := Aside0.mk (Q_L0 (hoff 30 (by kernel_rfl)))
          have T0 := Aside0.mk (Q_T0 (hoff 32 (by kernel_rfl)))
          refine value_ (w1 := w') (v := .int .i64 (X : Int)) (by rfl) rfl ?_ ?_
          ·go_simp
           (try simp only [i64_w])
           try rfl
          refine hK.out _ _ ⟨(by rw [ha.out]; exact putSel_upk 13 hb_ rfl rfl rfl), Q_BG, Q_HB, Q_BT, Q_WA, Q_CH, Q_S0, fun h0_ => absurd ((hoff 26 (by kernel_rfl)).symm.trans h0_) (by decide), Q_K0, fun h0_ => absurd ((hoff 28 (by kernel_rfl)).symm.trans h0_) (by decide), Q_L0, fun h0_ => absurd ((hoff 30 (by kernel_rfl)).symm.trans h0_) (by decide), Q_T0, fun h0_ => absurd ((hoff 32 (by kernel_rfl)).symm.trans h0_) (by decide)⟩
         refine steps_cons ?_ ?_
         ·rintro b a w' ⟨ha, Q_BG, Q_HB, Q_BT, Q_WA, Q_CH, Q_S0, Q_S1, Q_K0, Q_K1, Q_L0, Q_L1, Q_T0, Q_T1⟩ hb_ hon hoff
          refine ⟨_, rfl, fun K hK => ?_⟩
          have e121 : a.tmps[121]? = some (Value.slice (some ⟨bs, 0, none⟩) (n + 1) (n + 1)) := by rw [ha]; exact putSel_on (e := (12, 121, Value.slice (some ⟨bs, 0, none⟩) (n + 1) (n + 1))) 12 rfl rfl (hon 12 (by kernel_rfl)) rfl
          have e122 : a.tmps[122]? = some (.int .i64 (X : Int)) := by rw [ha]; exact putSel_on (e := (13, 122, .int .i64 (X : Int))) 13 rfl rfl (hon 13 (by kernel_rfl)) rfl
          replace ha := Aside0.mk ha
          have BG := Aside0.mk Q_BG
          have HB := Aside0.mk Q_HB
          have BT := Aside0.mk Q_BT
          have WA := Aside0.mk Q_WA
          have CH := Aside0.mk Q_CH
          have S0 := Aside0.mk (Q_S0 (hoff 26 (by kernel_rfl)))
          have K0 := Aside0.mk (Q_K0 (hoff 28 (by kernel_rfl)))
          have L0 := Aside0.mk (Q_L0 (hoff 30 (by kernel_rfl)))
          have T0 := Aside0.mk (Q_T0 (hoff 32 (by kernel_rfl)))
          refine value_ (w1 := w') (v := .pointer (some ⟨bs, X, none⟩)) (by rfl) rfl ?_ ?_
          ·go_simp
           (try simp only [i64_w])
           try rfl
          refine hK.out _ _ ⟨(by rw [ha.out]; exact putSel_upk 14 hb_ rfl rfl rfl), Q_BG, Q_HB, Q_BT, Q_WA, Q_CH, Q_S0, fun h0_ => absurd ((hoff 26 (by kernel_rfl)).symm.trans h0_) (by decide), Q_K0, fun h0_ => absurd ((hoff 28 (by kernel_rfl)).symm.trans h0_) (by decide), Q_L0, fun h0_ => absurd ((hoff 30 (by kernel_rfl)).symm.trans h0_) (by decide), Q_T0, fun h0_ => absurd ((hoff 32 (by kernel_rfl)).symm.trans h0_) (by decide)⟩
         refine steps_cons ?_ ?_
         ·rintro b a w' ⟨ha, Q_BG, Q_HB, Q_BT, Q_WA, Q_CH, Q_S0, Q_S1, Q_K0, Q_K1, Q_L0, Q_L1, Q_T0, Q_T1⟩ hb_ hon hoff
          refine ⟨_, rfl, fun K hK => ?_⟩
          have e123 : a.tmps[123]? = some (.pointer (some ⟨bs, X, none⟩)) := by rw [ha]; exact putSel_on (e := (14, 123, .pointer (some ⟨bs, X, none⟩))) 14 rfl rfl (hon 14 (by kernel_rfl)) rfl
          replace ha := Aside0.mk ha
          have BG := Aside0.mk Q_BG
          have HB := Aside0.mk Q_HB
          have BT := Aside0.mk Q_BT
          have WA := Aside0.mk Q_WA
          have CH := Aside0.mk Q_CH
          have S0 := Aside0.mk (Q_S0 (hoff 26 (by kernel_rfl)))
          have K0 := Aside0.mk (Q_K0 (hoff 28 (by kernel_rfl)))
          have L0 := Aside0.mk (Q_L0 (hoff 30 (by kernel_rfl)))
          have T0 := Aside0.mk (Q_T0 (hoff 32 (by kernel_rfl)))
          have z_ : w'.cell? ⟨bs, X, none⟩ = some (.int .i64 (st.sum.getD X 0)) := (blk_cell S0.out X).trans HX1.out
          refine value_ (w1 := w') (v := .int .i64 (st.sum.getD X 0)) (by rfl) rfl ?_ ?_
          ·go_simp
           (try simp only [i64_w])
           try rfl
          refine hK.out _ _ ⟨(by rw [ha.out]; exact putSel_upk 15 hb_ rfl rfl rfl), Q_BG, Q_HB, Q_BT, Q_WA, Q_CH, Q_S0, fun h0_ => absurd ((hoff 26 (by kernel_rfl)).symm.trans h0_) (by decide), Q_K0, fun h0_ => absurd ((hoff 28 (by kernel_rfl)).symm.trans h0_) (by decide), Q_L0, fun h0_ => absurd ((hoff 30 (by kernel_rfl)).symm.trans h0_) (by decide), Q_T0, fun h0_ => absurd ((hoff 32 (by kernel_rfl)).symm.trans h0_) (by decide)⟩
         refine steps_cons ?_ ?_
         ·rintro b a w' ⟨ha, Q_BG, Q_HB, Q_BT, Q_WA, Q_CH, Q_S0, Q_S1, Q_K0, Q_K1, Q_L0, Q_L1, Q_T0, Q_T1⟩ hb_ hon hoff
          refine ⟨_, rfl, fun K hK => ?_⟩
          have e15 : a.tmps[15]? = some (.pointer (some ⟨ba, 0, none⟩)) := by rw [ha]; exact (putSel_off rfl).trans rfl
          replace ha := Aside0.mk ha
          have BG := Aside0.mk Q_BG
          have HB := Aside0.mk Q_HB
          have BT := Aside0.mk Q_BT
          have WA := Aside0.mk Q_WA
          have CH := Aside0.mk Q_CH
          have S0 := Aside0.mk (Q_S0 (hoff 26 (by kernel_rfl)))
          have K0 := Aside0.mk (Q_K0 (hoff 28 (by kernel_rfl)))
          have L0 := Aside0.mk (Q_L0 (hoff 30 (by kernel_rfl)))
          have T0 := Aside0.mk (Q_T0 (hoff 32 (by kernel_rfl)))
          refine value_ (w1 := w') (v := .pointer (some ⟨ba, 2, none⟩)) (by rfl) rfl ?_ ?_
          ·go_simp
           (try simp only [i64_w])
           try rfl
          refine hK.out _ _ ⟨(by rw [ha.out]; exact putSel_upk 16 hb_ rfl rfl rfl), Q_BG, Q_HB, Q_BT, Q_WA, Q_CH, Q_S0, fun h0_ => absurd ((hoff 26 (by kernel_rfl)).symm.trans h0_) (by decide), Q_K0, fun h0_ => absurd ((hoff 28 (by kernel_rfl)).symm.trans h0_) (by decide), Q_L0, fun h0_ => absurd ((hoff 30 (by kernel_rfl)).symm.trans h0_) (by decide), Q_T0, fun h0_ => absurd ((hoff 32 (by kernel_rfl)).symm.trans h0_) (by decide)⟩
         refine steps_cons ?_ ?_
         ·rintro b a w' ⟨ha, Q_BG, Q_HB, Q_BT, Q_WA, Q_CH, Q_S0, Q_S1, Q_K0, Q_K1, Q_L0, Q_L1, Q_T0, Q_T1⟩ hb_ hon hoff
          refine ⟨_, rfl, fun K hK => ?_⟩
          have e125 : a.tmps[125]? = some (.pointer (some ⟨ba, 2, none⟩)) := by rw [ha]; exact putSel_on (e := (16, 125, .pointer (some ⟨ba, 2, none⟩))) 16 rfl rfl (hon 16 (by kernel_rfl)) rfl
          replace ha := Aside0.mk ha
          have BG := Aside0.mk Q_BG
          have HB := Aside0.mk Q_HB
          have BT := Aside0.mk Q_BT
          have WA := Aside0.mk Q_WA
          have CH := Aside0.mk Q_CH
          have S0 := Aside0.mk (Q_S0 (hoff 26 (by kernel_rfl)))
          have K0 := Aside0.mk (Q_K0 (hoff 28 (by kernel_rfl)))
          have L0 := Aside0.mk (Q_L0 (hoff 30 (by kernel_rfl)))
          have T0 := Aside0.mk (Q_T0 (hoff 32 (by kernel_rfl)))
          have z_ : w'.cell? ⟨ba, 2, none⟩ = some (.int .i64 aw) := (blk_cell BT.out 2).trans rfl
          refine value_ (w1 := w') (v := .int .i64 aw) (by rfl) rfl ?_ ?_
          ·go_simp
           (try simp only [i64_w])
           try rfl
          refine hK.out _ _ ⟨(by rw [ha.out]; exact putSel_upk 17 hb_ rfl rfl rfl), Q_BG, Q_HB, Q_BT, Q_WA, Q_CH, Q_S0, fun h0_ => absurd ((hoff 26 (by kernel_rfl)).symm.trans h0_) (by decide), Q_K0, fun h0_ => absurd ((hoff 28 (by kernel_rfl)).symm.trans h0_) (by decide), Q_L0, fun h0_ => absurd ((hoff 30 (by kernel_rfl)).symm.trans h0_) (by decide), Q_T0, fun h0_ => absurd ((hoff 32 (by kernel_rfl)).symm.trans h0_) (by decide)⟩
         refine steps_cons ?_ ?_
         ·rintro b a w' ⟨ha, Q_BG, Q_HB, Q_BT, Q_WA, Q_CH, Q_S0, Q_S1, Q_K0, Q_K1, Q_L0, Q_L1, Q_T0, Q_T1⟩ hb_ hon hoff
          refine ⟨_, rfl, fun K hK => ?_⟩
          have e124 : a.tmps[124]? = some (.int .i64 (st.sum.getD X 0)) := by rw [ha]; exact putSel_on (e := (15, 124, .int .i64 (st.sum.getD X 0))) 15 rfl rfl (hon 15 (by kernel_rfl)) rfl
          have e126 : a.tmps[126]? = some (.int .i64 aw) := by rw [ha]; exact putSel_on (e := (17, 126, .int .i64 aw)) 17 rfl rfl (hon 17 (by kernel_rfl)) rfl
          replace ha := Aside0.mk ha
          have BG := Aside0.mk Q_BG
          have HB := Aside0.mk Q_HB
          have BT := Aside0.mk Q_BT
          have WA := Aside0.mk Q_WA
          have CH := Aside0.mk Q_CH
          have S0 := Aside0.mk (Q_S0 (hoff 26 (by kernel_rfl)))
          have K0 := Aside0.mk (Q_K0 (hoff 28 (by kernel_rfl)))
          have L0 := Aside0.mk (Q_L0 (hoff 30 (by kernel_rfl)))
          have T0 := Aside0.mk (Q_T0 (hoff 32 (by kernel_rfl)))
          refine value_ (w1 := w') (v := .int .i64 (wrap64 (st.sum.getD X 0 + aw))) (by rfl) rfl ?_ ?_
          ·go_simp
           (try simp only [i64_w])
           try rfl
          refine hK.out _ _ ⟨(by rw [ha.out]; exact putSel_upk 18 hb_ rfl rfl rfl), Q_BG, Q_HB, Q_BT, Q_WA, Q_CH, Q_S0, fun h0_ => absurd ((hoff 26 (by kernel_rfl)).symm.trans h0_) (by decide), Q_K0, fun h0_ => absurd ((hoff 28 (by kernel_rfl)).symm.trans h0_) (by decide), Q_L0, fun h0_ => absurd ((hoff 30 (by kernel_rfl)).symm.trans h0_) (by decide), Q_T0, fun h0_ => absurd ((hoff 32 (by kernel_rfl)).symm.trans h0_) (by decide)⟩
         refine steps_cons ?_ ?_
         ·rintro b a w' ⟨ha, Q_BG, Q_HB, Q_BT, Q_WA, Q_CH, Q_S0, Q_S1, Q_K0, Q_K1, Q_L0, Q_L1, Q_T0, Q_T1⟩ hb_ hon hoff
          refine ⟨_, rfl, fun K hK => ?_⟩
          have e15 : a.tmps[15]? = some (.pointer (some ⟨ba, 0, none⟩)) := by rw [ha]; exact (putSel_off rfl).trans rfl
          replace ha := Aside0.mk ha
          have BG := Aside0.mk Q_BG
          have HB := Aside0.mk Q_HB
          have BT := Aside0.mk Q_BT
          have WA := Aside0.mk Q_WA
          have CH := Aside0.mk Q_CH
          have L0 := Aside0.mk (Q_L0 (hoff 30 (by kernel_rfl)))
          have T0 := Aside0.mk (Q_T0 (hoff 32 (by kernel_rfl)))
          have z0_ : w'.cell? ⟨ba, 0, none⟩ = some (.int .i64 a0) := (blk_cell BT.out 0).trans rfl
          have z1_ : w'.cell? ⟨ba, 1, none⟩ = some (.int .i64 (t : Int)) := (blk_cell BT.out 1).trans rfl
          have z2_ : w'.cell? ⟨ba, 2, none⟩ = some (.int .i64 aw) := (blk_cell BT.out 2).trans rfl
          have z3_ : w'.cell? ⟨ba, 3, none⟩ = some (.int .i64 ab) := (blk_cell BT.out 3).trans rfl
          refine value_ (w1 := w') (v := .agg #[.int .i64 a0, .int .i64 (t : Int), .int .i64 aw, .int .i64 ab]) (by rfl) rfl ?_ ?_
          ·go_simp
           (try simp only [i64_w])
           try rfl
          refine hK.out _ _ ⟨(by rw [ha.out]; exact putSel_upk 19 hb_ rfl rfl rfl), Q_BG, Q_HB, Q_BT, Q_WA, Q_CH, Q_S0, Q_S1, Q_K0, Q_K1, Q_L0, fun h0_ => absurd ((hoff 30 (by kernel_rfl)).symm.trans h0_) (by decide), Q_T0, fun h0_ => absurd ((hoff 32 (by kernel_rfl)).symm.trans h0_) (by decide)⟩
         refine steps_cons ?_ ?_
         ·rintro b a w' ⟨ha, Q_BG, Q_HB, Q_BT, Q_WA, Q_CH, Q_S0, Q_S1, Q_K0, Q_K1, Q_L0, Q_L1, Q_T0, Q_T1⟩ hb_ hon hoff
          refine ⟨_, rfl, fun K hK => ?_⟩
          have e9 : a.tmps[9]? = some (Value.slice (some ⟨bt, 0, none⟩) (n + 1) (n + 1)) := by rw [ha]; exact (putSel_off rfl).trans rfl
          replace ha := Aside0.mk ha
          have BG := Aside0.mk Q_BG
          have HB := Aside0.mk Q_HB
          have BT := Aside0.mk Q_BT
          have WA := Aside0.mk Q_WA
          have CH := Aside0.mk Q_CH
          have S0 := Aside0.mk (Q_S0 (hoff 26 (by kernel_rfl)))
          have K0 := Aside0.mk (Q_K0 (hoff 28 (by kernel_rfl)))
          have L0 := Aside0.mk (Q_L0 (hoff 30 (by kernel_rfl)))
          have T0 := Aside0.mk (Q_T0 (hoff 32 (by kernel_rfl)))
          refine value_ (w1 := w') (v := Value.slice (some ⟨bt, 0, none⟩) (n + 1) (n + 1)) (by rfl) rfl ?_ ?_
          ·go_simp
           (try simp only [i64_w])
           try rfl
          refine hK.out _ _ ⟨(by rw [ha.out]; exact putSel_upk 20 hb_ rfl rfl rfl), Q_BG, Q_HB, Q_BT, Q_WA, Q_CH, Q_S0, fun h0_ => absurd ((hoff 26 (by kernel_rfl)).symm.trans h0_) (by decide), Q_K0, fun h0_ => absurd ((hoff 28 (by kernel_rfl)).symm.trans h0_) (by decide), Q_L0, fun h0_ => absurd ((hoff 30 (by kernel_rfl)).symm.trans h0_) (by decide), Q_T0, fun h0_ => absurd ((hoff 32 (by kernel_rfl)).symm.trans h0_) (by decide)⟩
         refine steps_cons ?_ ?_
         ·rintro b a w' ⟨ha, Q_BG, Q_HB, Q_BT, Q_WA, Q_CH, Q_S0, Q_S1, Q_K0, Q_K1, Q_L0, Q_L1, Q_T0, Q_T1⟩ hb_ hon hoff
          refine ⟨_, rfl, fun K hK => ?_⟩
          have e13 : a.tmps[13]? = some (.int .i64 (X : Int)) := by rw [ha]; exact (putSel_off rfl).trans rfl
          replace ha := Aside0.mk ha
          have BG := Aside0.mk Q_BG
          have HB := Aside0.mk Q_HB
          have BT := Aside0.mk Q_BT
          have WA := Aside0.mk Q_WA
          have CH := Aside0.mk Q_CH
          have S0 := Aside0.mk (Q_S0 (hoff 26 (by kernel_rfl)))
          have K0 := Aside0.mk (Q_K0 (hoff 28 (by kernel_rfl)))
          have L0 := Aside0.mk (Q_L0 (hoff 30 (by kernel_rfl)))
          have T0 := Aside0.mk (Q_T0 (hoff 32 (by kernel_rfl)))
          refine value_ (w1 := w') (v := .int .i64 (X : Int)) (by rfl) rfl ?_ ?_
          ·go_simp
           (try simp only [i64_w])
           try rfl
          refine hK.out _ _ ⟨(by rw [ha.out]; exact putSel_upk 21 hb_ rfl rfl rfl), Q_BG, Q_HB, Q_BT, Q_WA, Q_CH, Q_S0, fun h0_ => absurd ((hoff 26 (by kernel_rfl)).symm.trans h0_) (by decide), Q_K0, fun h0_ => absurd ((hoff 28 (by kernel_rfl)).symm.trans h0_) (by decide), Q_L0, fun h0_ => absurd ((hoff 30 (by kernel_rfl)).symm.trans h0_) (by decide), Q_T0, fun h0_ => absurd ((hoff 32 (by kernel_rfl)).symm.trans h0_) (by decide)⟩
         refine steps_cons ?_ ?_
         ·rintro b a w' ⟨ha, Q_BG, Q_HB, Q_BT, Q_WA, Q_CH, Q_S0, Q_S1, Q_K0, Q_K1, Q_L0, Q_L1, Q_T0, Q_T1⟩ hb_ hon hoff
          refine ⟨_, rfl, fun K hK => ?_⟩
          have e129 : a.tmps[129]? = some (Value.slice (some ⟨bt, 0, none⟩) (n + 1) (n + 1)) := by rw [ha]; exact putSel_on (e := (20, 129, Value.slice (some ⟨bt, 0, none⟩) (n + 1) (n + 1))) 20 rfl rfl (hon 20 (by kernel_rfl)) rfl
          have e130 : a.tmps[130]? = some (.int .i64 (X : Int)) := by rw [ha]; exact putSel_on (e := (21, 130, .int .i64 (X : Int))) 21 rfl rfl (hon 21 (by kernel_rfl)) rfl
          replace ha := Aside0.mk ha
          have BG := Aside0.mk Q_BG
          have HB := Aside0.mk Q_HB
          have BT := Aside0.mk Q_BT
          have WA := Aside0.mk Q_WA
          have CH := Aside0.mk Q_CH
          have S0 := Aside0.mk (Q_S0 (hoff 26 (by kernel_rfl)))
          have K0 := Aside0.mk (Q_K0 (hoff 28 (by kernel_rfl)))
          have L0 := Aside0.mk (Q_L0 (hoff 30 (by kernel_rfl)))
          have T0 := Aside0.mk (Q_T0 (hoff 32 (by kernel_rfl)))
          refine value_ (w1 := w') (v := .pointer (some ⟨bt, X, none⟩)) (by rfl) rfl ?_ ?_
          ·go_simp
           (try simp only [i64_w])
           try rfl
          refine hK.out _ _ ⟨(by rw [ha.out]; exact putSel_upk 22 hb_ rfl rfl rfl), Q_BG, Q_HB, Q_BT, Q_WA, Q_CH, Q_S0, fun h0_ => absurd ((hoff 26 (by kernel_rfl)).symm.trans h0_) (by decide), Q_K0, fun h0_ => absurd ((hoff 28 (by kernel_rfl)).symm.trans h0_) (by decide), Q_L0, fun h0_ => absurd ((hoff 30 (by kernel_rfl)).symm.trans h0_) (by decide), Q_T0, fun h0_ => absurd ((hoff 32 (by kernel_rfl)).symm.trans h0_) (by decide)⟩
         refine steps_cons ?_ ?_
         ·rintro b a w' ⟨ha, Q_BG, Q_HB, Q_BT, Q_WA, Q_CH, Q_S0, Q_S1, Q_K0, Q_K1, Q_L0, Q_L1, Q_T0, Q_T1⟩ hb_ hon hoff
          refine ⟨_, rfl, fun K hK => ?_⟩
          have e131 : a.tmps[131]? = some (.pointer (some ⟨bt, X, none⟩)) := by rw [ha]; exact putSel_on (e := (22, 131, .pointer (some ⟨bt, X, none⟩))) 22 rfl rfl (hon 22 (by kernel_rfl)) rfl
          replace ha := Aside0.mk ha
          have BG := Aside0.mk Q_BG
          have HB := Aside0.mk Q_HB
          have BT := Aside0.mk Q_BT
          have WA := Aside0.mk Q_WA
          have CH := Aside0.mk Q_CH
          have S0 := Aside0.mk (Q_S0 (hoff 26 (by kernel_rfl)))
          have K0 := Aside0.mk (Q_K0 (hoff 28 (by kernel_rfl)))
          have L0 := Aside0.mk (Q_L0 (hoff 30 (by kernel_rfl)))
          have T0 := Aside0.mk (Q_T0 (hoff 32 (by kernel_rfl)))
          have z_ : w'.cell? ⟨bt, X, none⟩ = some (.int .i64 (st.steps.getD X 0)) := (blk_cell T0.out X).trans HX2.out
          refine value_ (w1 := w') (v := .int .i64 (st.steps.getD X 0)) (by rfl) rfl ?_ ?_
          ·go_simp
           (try simp only [i64_w])
           try rfl
          refine hK.out _ _ ⟨(by rw [ha.out]; exact putSel_upk 23 hb_ rfl rfl rfl), Q_BG, Q_HB, Q_BT, Q_WA, Q_CH, Q_S0, fun h0_ => absurd ((hoff 26 (by kernel_rfl)).symm.trans h0_) (by decide), Q_K0, fun h0_ => absurd ((hoff 28 (by kernel_rfl)).symm.trans h0_) (by decide), Q_L0, fun h0_ => absurd ((hoff 30 (by kernel_rfl)).symm.trans h0_) (by decide), Q_T0, fun h0_ => absurd ((hoff 32 (by kernel_rfl)).symm.trans h0_) (by decide)⟩
         refine steps_cons ?_ ?_
         ·rintro b a w' ⟨ha, Q_BG, Q_HB, Q_BT, Q_WA, Q_CH, Q_S0, Q_S1, Q_K0, Q_K1, Q_L0, Q_L1, Q_T0, Q_T1⟩ hb_ hon hoff
          refine ⟨_, rfl, fun K hK => ?_⟩
          have e132 : a.tmps[132]? = some (.int .i64 (st.steps.getD X 0)) := by rw [ha]; exact putSel_on (e := (23, 132, .int .i64 (st.steps.getD X 0))) 23 rfl rfl (hon 23 (by kernel_rfl)) rfl
          replace ha := Aside0.mk ha
          have BG := Aside0.mk Q_BG
          have HB := Aside0.mk Q_HB
          have BT := Aside0.mk Q_BT
          have WA := Aside0.mk Q_WA
          have CH := Aside0.mk Q_CH
          have T0 := Aside0.mk (Q_T0 (hoff 32 (by kernel_rfl)))
          refine value_ (w1 := w') (v := .int .i64 (wrap64 (st.steps.getD X 0 + 1))) (by rfl) rfl ?_ ?_
          ·go_simp
           (try simp only [i64_w])
           try rfl
          refine hK.out _ _ ⟨(by rw [ha.out]; exact putSel_upk 24 hb_ rfl rfl rfl), Q_BG, Q_HB, Q_BT, Q_WA, Q_CH, Q_S0, Q_S1, Q_K0, Q_K1, Q_L0, Q_L1, Q_T0, fun h0_ => absurd ((hoff 32 (by kernel_rfl)).symm.trans h0_) (by decide)⟩
         refine steps_cons ?_ ?_
         ·rintro b a w' ⟨ha, Q_BG, Q_HB, Q_BT, Q_WA, Q_CH, Q_S0, Q_S1, Q_K0, Q_K1, Q_L0, Q_L1, Q_T0, Q_T1⟩ hb_ hon hoff
          refine ⟨_, rfl, fun K hK => ?_⟩
          have e109 : a.tmps[109]? = some (Value.slice (some ⟨bs, 0, none⟩) (n + 1) (n + 1)) := by rw [ha]; exact putSel_on (e := (0, 109, Value.slice (some ⟨bs, 0, none⟩) (n + 1) (n + 1))) 0 rfl rfl (hon 0 (by kernel_rfl)) rfl
          have e111 : a.tmps[111]? = some (.int .i64 (t : Int)) := by rw [ha]; exact putSel_on (e := (2, 111, .int .i64 (t : Int))) 2 rfl rfl (hon 2 (by kernel_rfl)) rfl
          replace ha := Aside0.mk ha
          have BG := Aside0.mk Q_BG
          have HB := Aside0.mk Q_HB
          have BT := Aside0.mk Q_BT
          have WA := Aside0.mk Q_WA
          have CH := Aside0.mk Q_CH
          have S0 := Aside0.mk (Q_S0 (hoff 26 (by kernel_rfl)))
          have K0 := Aside0.mk (Q_K0 (hoff 28 (by kernel_rfl)))
          have L0 := Aside0.mk (Q_L0 (hoff 30 (by kernel_rfl)))
          have T0 := Aside0.mk (Q_T0 (hoff 32 (by kernel_rfl)))
          refine value_ (w1 := w') (v := .pointer (some ⟨bs, t, none⟩)) (by rfl) rfl ?_ ?_
          ·go_simp
           (try simp only [i64_w])
           try rfl
          refine hK.out _ _ ⟨(by rw [ha.out]; exact putSel_upk 25 hb_ rfl rfl rfl), Q_BG, Q_HB, Q_BT, Q_WA, Q_CH, Q_S0, fun h0_ => absurd ((hoff 26 (by kernel_rfl)).symm.trans h0_) (by decide), Q_K0, fun h0_ => absurd ((hoff 28 (by kernel_rfl)).symm.trans h0_) (by decide), Q_L0, fun h0_ => absurd ((hoff 30 (by kernel_rfl)).symm.trans h0_) (by decide), Q_T0, fun h0_ => absurd ((hoff 32 (by kernel_rfl)).symm.trans h0_) (by decide)⟩
         refine steps_cons ?_ ?_
         ·rintro b a w' ⟨ha, Q_BG, Q_HB, Q_BT, Q_WA, Q_CH, Q_S0, Q_S1, Q_K0, Q_K1, Q_L0, Q_L1, Q_T0, Q_T1⟩ hb_ hon hoff
          refine ⟨_, rfl, fun K hK => ?_⟩
          have e134 : a.tmps[134]? = some (.pointer (some ⟨bs, t, none⟩)) := by rw [ha]; exact putSel_on (e := (25, 134, .pointer (some ⟨bs, t, none⟩))) 25 rfl rfl (hon 25 (by kernel_rfl)) rfl
          have e127 : a.tmps[127]? = some (.int .i64 (wrap64 (st.sum.getD X 0 + aw))) := by rw [ha]; exact putSel_on (e := (18, 127, .int .i64 (wrap64 (st.sum.getD X 0 + aw)))) 18 rfl rfl (hon 18 (by kernel_rfl)) rfl
          replace ha := Aside0.mk ha
          have BG := Aside0.mk Q_BG
          have HB := Aside0.mk Q_HB
          have BT := Aside0.mk Q_BT
          have WA := Aside0.mk Q_WA
          have CH := Aside0.mk Q_CH
          have S0 := Aside0.mk (Q_S0 hb_)
          have K0 := Aside0.mk (Q_K0 (hoff 28 (by kernel_rfl)))
          have L0 := Aside0.mk (Q_L0 (hoff 30 (by kernel_rfl)))
          have T0 := Aside0.mk (Q_T0 (hoff 32 (by kernel_rfl)))
          have zc := (blk_cell S0.out t).trans HC1.out
          have zf := blk_frozen S0.out t
          refine skip_ (w1 := ?_) (by rfl) rfl ?_ ?_
          rotate_left
          ·go_simp
           rfl
          refine hK.out _ _ ⟨(by rw [ha.out]; exact putSel_none (v := undef) rfl), (blk_far BG.out (Nat.ne_of_lt (Nat.lt_of_lt_of_le GG.out GS.out)) _), (below_set HB.out GS.out), (blk_far BT.out (ty_ne BT.out S0.out (by decide)) _), (blk_far WA.out (ty_ne WA.out S0.out (by decide)) _), (CH.out.far S0.out (by decide) _), fun h0_ => absurd ((up_self b 26).symm.trans h0_) (by decide), fun _ => (blk_put S0.out t _ (encI_set _ _ _)), fun _ => (blk_far K0.out (ty_ne K0.out S0.out (by decide)) _), fun h0_ => absurd ((hoff 28 (by kernel_rfl)).symm.trans h0_) (by decide), fun _ => (blk_far L0.out (ty_ne L0.out S0.out (by decide)) _), fun h0_ => absurd ((hoff 30 (by kernel_rfl)).symm.trans h0_) (by decide), fun _ => (blk_far T0.out (Ne.symm NST.out) _), fun h0_ => absurd ((hoff 32 (by kernel_rfl)).symm.trans h0_) (by decide)⟩
         refine steps_cons ?_ ?_
         ·rintro b a w' ⟨ha, Q_BG, Q_HB, Q_BT, Q_WA, Q_CH, Q_S0, Q_S1, Q_K0, Q_K1, Q_L0, Q_L1, Q_T0, Q_T1⟩ hb_ hon hoff
          refine ⟨_, rfl, fun K hK => ?_⟩
          have e112 : a.tmps[112]? = some (Value.slice (some ⟨bk, 0, none⟩) (n + 1) (n + 1)) := by rw [ha]; exact putSel_on (e := (3, 112, Value.slice (some ⟨bk, 0, none⟩) (n + 1) (n + 1))) 3 rfl rfl (hon 3 (by kernel_rfl)) rfl
          have e114 : a.tmps[114]? = some (.int .i64 (t : Int)) := by rw [ha]; exact putSel_on (e := (5, 114, .int .i64 (t : Int))) 5 rfl rfl (hon 5 (by kernel_rfl)) rfl
          replace ha := Aside0.mk ha
          have BG := Aside0.mk Q_BG
          have HB := Aside0.mk Q_HB
          have BT := Aside0.mk Q_BT
          have WA := Aside0.mk Q_WA
          have CH := Aside0.mk Q_CH
          have S1 := Aside0.mk (Q_S1 (hon 26 (by kernel_rfl)))
          have K0 := Aside0.mk (Q_K0 (hoff 28 (by kernel_rfl)))
          have L0 := Aside0.mk (Q_L0 (hoff 30 (by kernel_rfl)))
          have T0 := Aside0.mk (Q_T0 (hoff 32 (by kernel_rfl)))
          refine value_ (w1 := w') (v := .pointer (some ⟨bk, t, none⟩)) (by rfl) rfl ?_ ?_
          ·go_simp
           (try simp only [i64_w])
           try rfl
          refine hK.out _ _ ⟨(by rw [ha.out]; exact putSel_upk 26 hb_ rfl rfl rfl), Q_BG, Q_HB, Q_BT, Q_WA, Q_CH, fun h0_ => absurd ((hon 26 (by kernel_rfl)).symm.trans h0_) (by decide), Q_S1, Q_K0, fun h0_ => absurd ((hoff 28 (by kernel_rfl)).symm.trans h0_) (by decide), Q_L0, fun h0_ => absurd ((hoff 30 (by kernel_rfl)).symm.trans h0_) (by decide), Q_T0, fun h0_ => absurd ((hoff 32 (by kernel_rfl)).symm.trans h0_) (by decide)⟩
         refine steps_cons ?_ ?_
         ·rintro b a w' ⟨ha, Q_BG, Q_HB, Q_BT, Q_WA, Q_CH, Q_S0, Q_S1, Q_K0, Q_K1, Q_L0, Q_L1, Q_T0, Q_T1⟩ hb_ hon hoff
          refine ⟨_, rfl, fun K hK => ?_⟩
          have e135 : a.tmps[135]? = some (.pointer (some ⟨bk, t, none⟩)) := by rw [ha]; exact putSel_on (e := (27, 135, .pointer (some ⟨bk, t, none⟩))) 26 rfl rfl (hon 27 (by kernel_rfl)) rfl
          replace ha := Aside0.mk ha
          have BG := Aside0.mk Q_BG
          have HB := Aside0.mk Q_HB
          have BT := Aside0.mk Q_BT
          have WA := Aside0.mk Q_WA
          have CH := Aside0.mk Q_CH
          have S1 := Aside0.mk (Q_S1 (hon 26 (by kernel_rfl)))
          have K0 := Aside0.mk (Q_K0 hb_)
          have L0 := Aside0.mk (Q_L0 (hoff 30 (by kernel_rfl)))
          have T0 := Aside0.mk (Q_T0 (hoff 32 (by kernel_rfl)))
          have zc := (blk_cell K0.out t).trans HC2.out
          have zf := blk_frozen K0.out t
          refine skip_ (w1 := ?_) (by rfl) rfl ?_ ?_
          rotate_left
          ·go_simp
           rfl
          refine hK.out _ _ ⟨(by rw [ha.out]; exact putSel_none (v := undef) rfl), (blk_far BG.out (Nat.ne_of_lt (Nat.lt_of_lt_of_le GG.out GK.out)) _), (below_set HB.out GK.out), (blk_far BT.out (ty_ne BT.out K0.out (by decide)) _), (blk_far WA.out (Ne.symm NKW.out) _), (CH.out.far K0.out (by decide) _), fun h0_ => absurd ((hon 26 (by kernel_rfl)).symm.trans h0_) (by decide), fun _ => (blk_far S1.out (ty_ne S1.out K0.out (by decide)) _), fun h0_ => absurd ((up_self b 28).symm.trans h0_) (by decide), fun _ => (blk_put K0.out t _ (encB_set _ _ _)), fun _ => (blk_far L0.out (ty_ne L0.out K0.out (by decide)) _), fun h0_ => absurd ((hoff 30 (by kernel_rfl)).symm.trans h0_) (by decide), fun _ => (blk_far T0.out (ty_ne T0.out K0.out (by decide)) _), fun h0_ => absurd ((hoff 32 (by kernel_rfl)).symm.trans h0_) (by decide)⟩
         refine steps_cons ?_ ?_
         ·rintro b a w' ⟨ha, Q_BG, Q_HB, Q_BT, Q_WA, Q_CH, Q_S0, Q_S1, Q_K0, Q_K1, Q_L0, Q_L1, Q_T0, Q_T1⟩ hb_ hon hoff
          refine ⟨_, rfl, fun K hK => ?_⟩
          have e115 : a.tmps[115]? = some (Value.slice (some ⟨bl, 0, none⟩) (n + 1) (n + 1)) := by rw [ha]; exact putSel_on (e := (6, 115, Value.slice (some ⟨bl, 0, none⟩) (n + 1) (n + 1))) 6 rfl rfl (hon 6 (by kernel_rfl)) rfl
          have e117 : a.tmps[117]? = some (.int .i64 (t : Int)) := by rw [ha]; exact putSel_on (e := (8, 117, .int .i64 (t : Int))) 8 rfl rfl (hon 8 (by kernel_rfl)) rfl
          replace ha := Aside0.mk ha
          have BG := Aside0.mk Q_BG
          have HB := Aside0.mk Q_HB
          have BT := Aside0.mk Q_BT
          have WA := Aside0.mk Q_WA
          have CH := Aside0.mk Q_CH
          have S1 := Aside0.mk (Q_S1 (hon 26 (by kernel_rfl)))
          have K1 := Aside0.mk (Q_K1 (hon 28 (by kernel_rfl)))
          have L0 := Aside0.mk (Q_L0 (hoff 30 (by kernel_rfl)))
          have T0 := Aside0.mk (Q_T0 (hoff 32 (by kernel_rfl)))
          refine value_ (w1 := w') (v := .pointer (some ⟨bl, (t * 4), none⟩)) (by rfl) rfl ?_ ?_
          ·go_simp
           (try simp only [i64_w])
           try rfl
          refine hK.out _ _ ⟨(by rw [ha.out]; exact putSel_upk 27 hb_ rfl rfl rfl), Q_BG, Q_HB, Q_BT, Q_WA, Q_CH, fun h0_ => absurd ((hon 26 (by kernel_rfl)).symm.trans h0_) (by decide), Q_S1, fun h0_ => absurd ((hon 28 (by kernel_rfl)).symm.trans h0_) (by decide), Q_K1, Q_L0, fun h0_ => absurd ((hoff 30 (by kernel_rfl)).symm.trans h0_) (by decide), Q_T0, fun h0_ => absurd ((hoff 32 (by kernel_rfl)).symm.trans h0_) (by decide)⟩
         refine steps_cons ?_ ?_
         ·rintro b a w' ⟨ha, Q_BG, Q_HB, Q_BT, Q_WA, Q_CH, Q_S0, Q_S1, Q_K0, Q_K1, Q_L0, Q_L1, Q_T0, Q_T1⟩ hb_ hon hoff
          refine ⟨_, rfl, fun K hK => ?_⟩
          have e136 : a.tmps[136]? = some (.pointer (some ⟨bl, (t * 4), none⟩)) := by rw [ha]; exact putSel_on (e := (29, 136, .pointer (some ⟨bl, (t * 4), none⟩))) 27 rfl rfl (hon 29 (by kernel_rfl)) rfl
          have e128 : a.tmps[128]? = some (.agg #[.int .i64 a0, .int .i64 (t : Int), .int .i64 aw, .int .i64 ab]) := by rw [ha]; exact putSel_on (e := (19, 128, .agg #[.int .i64 a0, .int .i64 (t : Int), .int .i64 aw, .int .i64 ab])) 19 rfl rfl (hon 19 (by kernel_rfl)) rfl
          replace ha := Aside0.mk ha
          have BG := Aside0.mk Q_BG
          have HB := Aside0.mk Q_HB
          have BT := Aside0.mk Q_BT
          have WA := Aside0.mk Q_WA
          have CH := Aside0.mk Q_CH
          have S1 := Aside0.mk (Q_S1 (hon 26 (by kernel_rfl)))
          have K1 := Aside0.mk (Q_K1 (hon 28 (by kernel_rfl)))
          have L0 := Aside0.mk (Q_L0 hb_)
          have T0 := Aside0.mk (Q_T0 (hoff 32 (by kernel_rfl)))
          have zc0 := (blk_cell L0.out (t * 4)).trans HC3.out.1
          have zc1 := (blk_cell L0.out (t * 4 + 1)).trans HC3.out.2.1
          have zc2 := (blk_cell L0.out (t * 4 + 2)).trans HC3.out.2.2.1
          have zc3 := (blk_cell L0.out (t * 4 + 3)).trans HC3.out.2.2.2
          have zf0 := blk_frozen L0.out (t * 4)
          have zf1 := blk_frozen L0.out (t * 4 + 1)
          have zf2 := blk_frozen L0.out (t * 4 + 2)
          have zf3 := blk_frozen L0.out (t * 4 + 3)
          refine skip_ (w1 := ?_) (by rfl) rfl ?_ ?_
          rotate_left
          ·go_simp
           rfl
          refine hK.out _ _ ⟨(by rw [ha.out]; exact putSel_none (v := undef) rfl), ((HL4.out _ _ (Nat.ne_of_lt (Nat.lt_of_lt_of_le GG.out GL.out))).trans BG.out), (below_set (below_set (below_set (below_set HB.out GL.out) GL.out) GL.out) GL.out), ((HL4.out _ _ NBL.out).trans BT.out), ((HL4.out _ _ (ty_ne WA.out L0.out (by decide))).trans WA.out), (CH.out.move (fun b_ hb_ => HL4.out _ b_ (CH.out.ne105 L0.out hb_))), fun h0_ => absurd ((hon 26 (by kernel_rfl)).symm.trans h0_) (by decide), fun _ => ((HL4.out _ _ (ty_ne S1.out L0.out (by decide))).trans S1.out), fun h0_ => absurd ((hon 28 (by kernel_rfl)).symm.trans h0_) (by decide), fun _ => ((HL4.out _ _ (ty_ne K1.out L0.out (by decide))).trans K1.out), fun h0_ => absurd ((up_self b 30).symm.trans h0_) (by decide), fun _ => (HL5.out _ L0.out), fun _ => ((HL4.out _ _ (ty_ne T0.out L0.out (by decide))).trans T0.out), fun h0_ => absurd ((hoff 32 (by kernel_rfl)).symm.trans h0_) (by decide)⟩
         refine steps_cons ?_ ?_
         ·rintro b a w' ⟨ha, Q_BG, Q_HB, Q_BT, Q_WA, Q_CH, Q_S0, Q_S1, Q_K0, Q_K1, Q_L0, Q_L1, Q_T0, Q_T1⟩ hb_ hon hoff
          refine ⟨_, rfl, fun K hK => ?_⟩
          have e118 : a.tmps[118]? = some (Value.slice (some ⟨bt, 0, none⟩) (n + 1) (n + 1)) := by rw [ha]; exact putSel_on (e := (9, 118, Value.slice (some ⟨bt, 0, none⟩) (n + 1) (n + 1))) 9 rfl rfl (hon 9 (by kernel_rfl)) rfl
          have e120 : a.tmps[120]? = some (.int .i64 (t : Int)) := by rw [ha]; exact putSel_on (e := (11, 120, .int .i64 (t : Int))) 11 rfl rfl (hon 11 (by kernel_rfl)) rfl
          replace ha := Aside0.mk ha
          have BG := Aside0.mk Q_BG
          have HB := Aside0.mk Q_HB
          have BT := Aside0.mk Q_BT
          have WA := Aside0.mk Q_WA
          have CH := Aside0.mk Q_CH
          have S1 := Aside0.mk (Q_S1 (hon 26 (by kernel_rfl)))
          have K1 := Aside0.mk (Q_K1 (hon 28 (by kernel_rfl)))
          have L1 := Aside0.mk (Q_L1 (hon 30 (by kernel_rfl)))
          have T0 := Aside0.mk (Q_T0 (hoff 32 (by kernel_rfl)))
          refine value_ (w1 := w') (v := .pointer (some ⟨bt, t, none⟩)) (by rfl) rfl ?_ ?_
          ·go_simp
           (try simp only [i64_w])
           try rfl
          refine hK.out _ _ ⟨(by rw [ha.out]; exact putSel_upk 28 hb_ rfl rfl rfl), Q_BG, Q_HB, Q_BT, Q_WA, Q_CH, fun h0_ => absurd ((hon 26 (by kernel_rfl)).symm.trans h0_) (by decide), Q_S1, fun h0_ => absurd ((hon 28 (by kernel_rfl)).symm.trans h0_) (by decide), Q_K1, fun h0_ => absurd ((hon 30 (by kernel_rfl)).symm.trans h0_) (by decide), Q_L1, Q_T0, fun h0_ => absurd ((hoff 32 (by kernel_rfl)).symm.trans h0_) (by decide)⟩
         refine steps_cons ?_ ?_
         ·rintro b a w' ⟨ha, Q_BG, Q_HB, Q_BT, Q_WA, Q_CH, Q_S0, Q_S1, Q_K0, Q_K1, Q_L0, Q_L1, Q_T0, Q_T1⟩ hb_ hon hoff
          refine ⟨_, rfl, fun K hK => ?_⟩
          have e137 : a.tmps[137]? = some (.pointer (some ⟨bt, t, none⟩)) := by rw [ha]; exact putSel_on (e := (31, 137, .pointer (some ⟨bt, t, none⟩))) 28 rfl rfl (hon 31 (by kernel_rfl)) rfl
          have e133 : a.tmps[133]? = some (.int .i64 (wrap64 (st.steps.getD X 0 + 1))) := by rw [ha]; exact putSel_on (e := (24, 133, .int .i64 (wrap64 (st.steps.getD X 0 + 1)))) 24 rfl rfl (hon 24 (by kernel_rfl)) rfl
          replace ha := Aside0.mk ha
          have BG := Aside0.mk Q_BG
          have HB := Aside0.mk Q_HB
          have BT := Aside0.mk Q_BT
          have WA := Aside0.mk Q_WA
          have CH := Aside0.mk Q_CH
          have S1 := Aside0.mk (Q_S1 (hon 26 (by kernel_rfl)))
          have K1 := Aside0.mk (Q_K1 (hon 28 (by kernel_rfl)))
          have L1 := Aside0.mk (Q_L1 (hon 30 (by kernel_rfl)))
          have T0 := Aside0.mk (Q_T0 hb_)
          have zc := (blk_cell T0.out t).trans HC4.out
          have zf := blk_frozen T0.out t
          refine skip_ (w1 := ?_) (by rfl) rfl ?_ ?_
          rotate_left
          ·go_simp
           rfl
          refine hK.out _ _ ⟨(by rw [ha.out]; exact putSel_none (v := undef) rfl), (blk_far BG.out (Nat.ne_of_lt (Nat.lt_of_lt_of_le GG.out GT.out)) _), (below_set HB.out GT.out), (blk_far BT.out (ty_ne BT.out T0.out (by decide)) _), (blk_far WA.out (ty_ne WA.out T0.out (by decide)) _), (CH.out.far T0.out (by decide) _), fun h0_ => absurd ((hon 26 (by kernel_rfl)).symm.trans h0_) (by decide), fun _ => (blk_far S1.out NST.out _), fun h0_ => absurd ((hon 28 (by kernel_rfl)).symm.trans h0_) (by decide), fun _ => (blk_far K1.out (ty_ne K1.out T0.out (by decide)) _), fun h0_ => absurd ((hon 30 (by kernel_rfl)).symm.trans h0_) (by decide), fun _ => (blk_far L1.out (ty_ne L1.out T0.out (by decide)) _), fun h0_ => absurd ((up_self b 32).symm.trans h0_) (by decide), fun _ => (blk_put T0.out t _ (encI_set _ _ _))⟩
         exact steps_nil
        rintro b a w5 hall ⟨ha, Q_BG, Q_HB, Q_BT, Q_WA, Q_CH, Q_S0, Q_S1, Q_K0, Q_K1, Q_L0, Q_L1, Q_T0, Q_T1⟩
        clear BG BT CH HB K0 L0 S0 T0 WA
        have hb0_ := hall 0 (by kernel_rfl)
        have hb1_ := hall 1 (by kernel_rfl)
        have hb2_ := hall 2 (by kernel_rfl)
        have hb3_ := hall 3 (by kernel_rfl)
        have hb4_ := hall 4 (by kernel_rfl)
        have hb5_ := hall 5 (by kernel_rfl)
        have hb6_ := hall 6 (by kernel_rfl)
        have hb7_ := hall 7 (by kernel_rfl)
        have hb8_ := hall 8 (by kernel_rfl)
        have hb9_ := hall 9 (by kernel_rfl)
        have hb10_ := hall 10 (by kernel_rfl)
        have hb11_ := hall 11 (by kernel_rfl)
        have hb12_ := hall 12 (by kernel_rfl)
        have hb13_ := hall 13 (by kernel_rfl)
        have hb14_ := hall 14 (by kernel_rfl)
        have hb15_ := hall 15 (by kernel_rfl)
        have hb16_ := hall 16 (by kernel_rfl)
        have hb17_ := hall 17 (by kernel_rfl)
        have hb18_ := hall 18 (by kernel_rfl)
        have hb19_ := hall 19 (by kernel_rfl)
        have hb20_ := hall 20 (by kernel_rfl)
        have hb21_ := hall 21 (by kernel_rfl)
        have hb22_ := hall 22 (by kernel_rfl)
        have hb23_ := hall 23 (by kernel_rfl)
        have hb24_ := hall 24 (by kernel_rfl)
        have hb25_ := hall 25 (by kernel_rfl)
        have hb26_ := hall 26 (by kernel_rfl)
        have hb27_ := hall 27 (by kernel_rfl)
        have hb28_ := hall 28 (by kernel_rfl)
        have hb29_ := hall 29 (by kernel_rfl)
        have hb30_ := hall 30 (by kernel_rfl)
        have hb31_ := hall 31 (by kernel_rfl)
        have hb32_ := hall 32 (by kernel_rfl)
        subst ha
        simp only [putSel, hb0_, hb1_, hb2_, hb3_, hb4_, hb5_, hb6_, hb7_, hb8_, hb9_, hb10_, hb11_, hb12_, hb13_, hb14_, hb15_, hb16_, hb17_, hb18_, hb19_, hb20_, hb21_, hb22_, hb23_, hb24_, hb25_, hb26_, hb27_, hb28_, hb29_, hb30_, hb31_, hb32_, if_true, Act.put, List.setIfInBounds_toArray, List.set_cons_zero, List.set_cons_succ]
        have BG := Aside0.mk Q_BG
        clear Q_BG
        have HB := Aside0.mk Q_HB
        clear Q_HB
        have BT := Aside0.mk Q_BT
        clear Q_BT
        have WA := Aside0.mk Q_WA
        clear Q_WA
        have CH := Aside0.mk Q_CH
        clear Q_CH
        clear Q_S0
        have S1 := Aside0.mk (Q_S1 hb26_)
        clear Q_S1
        clear Q_K0
        have K1 := Aside0.mk (Q_K1 hb28_)
        clear Q_K1
        clear Q_L0
        have L1 := Aside0.mk (Q_L1 hb30_)
        clear Q_L1
        clear Q_T0
        have T1 := Aside0.mk (Q_T1 hb32_)
        clear Q_T1
        clear hall hb0_ hb1_ hb2_ hb3_ hb4_ hb5_ hb6_ hb7_ hb8_ hb9_ hb10_ hb11_ hb12_ hb13_ hb14_ hb15_ hb16_ hb17_ hb18_ hb19_ hb20_ hb21_ hb22_ hb23_ hb24_ hb25_ hb26_ hb27_ hb28_ hb29_ hb30_ hb31_ hb32_
        have HF5 := Aside0.mk (show FarAt w w5 g ob n ⟨bs, bk, bl, bw, bt⟩ (st.up X ⟨a0, (t : Int), aw, ab⟩) (b1 :: cl) ((X : Int) :: q) from
         { HF.out with below := HB.out, net := BG.out, sum := S1.out, known := K1.out, last := L1.out, waits := WA.out, steps := T1.out, chain := CH.out, lsum := by simp [FSt.up, HF.out.lsum], lknown := by simp [FSt.up, HF.out.lknown], llast := by simp [FSt.up, HF.out.llast], lwaits := HF.out.lwaits, lsteps := by simp [FSt.up, HF.out.lsteps] })
        have HWW := Aside0.mk (show (st.up X ⟨a0, (t : Int), aw, ab⟩).waits = st.waits from rfl)
        clear HT_ HW_ hHeld HF HX1 HX2 HC1 HC2 HC3 HC4 HL5 HL4 BG HB WA CH S1 K1 L1 T1 GG GS GK GL GT NST NKW hu105
        generalize st.up X ⟨a0, (t : Int), aw, ab⟩ = st5 at HF5 H2 HWW
        clear HWW
        go_upto_region 20 with fail
        go_cut [85, 153] from 85 to 186 (fun v85 v153 wx => v85 = .int .i64 (j : Int) ∧ (∃ c : Bool, v153 = .bool c ∧ Aside0 (c = true ↔ ((t : Int) = s ∨ (n : Int) < st5.steps.getD t 0))) ∧ Aside0 (FarAt w wx g ob n ⟨bs, bk, bl, bw, bt⟩ st5 (b1 :: cl) ((X : Int) :: q)) ∧ Aside0 (wx.heap[ba]? = some (.cells #[.int .i64 a0, .int .i64 (t : Int), .int .i64 aw, .int .i64 ab] 105 (0, 0))))
        case first =>
         have y1 : w5.cell? ⟨ba, 1, none⟩ = some (.int .i64 (t : Int)) := (blk_cell BT.out 1).trans rfl
         have zt : w5.cell? ⟨bt, t, none⟩ = some (.int .i64 (st5.steps.getD t 0)) := (blk_cell HF5.out.steps t).trans (encI_get (by have := HF5.out.lsteps; omega))
         have zg : w5.cell? ⟨g, 0, none⟩ = some (.int .i64 (n : Int)) := (blk_cell HF5.out.net 0).trans rfl
         by_cases hts : (t : Int) = s
         ·have HTS := Aside0.mk hts
          have hb1 : ((t : Int) == (s : Int)) = true := beq_iff_eq.mpr hts
          clear hts
          go_wp2
          go_quiet (fail)
          go_wp2
          go_meet
          exact ⟨rfl, ⟨true, rfl, ⟨by simp [HTS.out]⟩⟩, ⟨HF5.out.drewN _⟩, ⟨BT.out⟩⟩
         ·have HTS := Aside0.mk hts
          have hb1 : ((t : Int) == (s : Int)) = false := beq_eq_false_iff_ne.mpr hts
          clear hts
          go_wp2
          go_quiet (fail)
          go_wp2
          go_meet
          exact ⟨rfl, ⟨_, rfl, ⟨by rw [decide_eq_true_iff]; exact ⟨fun h => .inr h, fun h => h.resolve_left HTS.out⟩⟩⟩, ⟨HF5.out.drewN _⟩, ⟨BT.out⟩⟩
        case rest =>
        clear HF5 BT
        obtain ⟨rfl, ⟨cc, rfl, HC⟩, HF5, BT⟩ := hcut
        go_upto_if 153 with fail
        go_cut [4, 5, 6, 16, 85] from 85 to 186 (fun v4 v5 v6 v16 v85 wx => v4 = .slice (some ⟨bs, 0, none⟩) (n + 1) (n + 1) ∧ v5 = .slice (some ⟨bk, 0, none⟩) (n + 1) (n + 1) ∧ v6 = .slice (some ⟨bl, 0, none⟩) (n + 1) (n + 1) ∧ v85 = .int .i64 (j : Int) ∧ Aside0 (FarAt w wx g ob n ⟨bs, bk, bl, bw, bt⟩ st5 (b1 :: cl) ((X : Int) :: q)) ∧ Aside0 (wx.heap[ba]? = some (.cells #[.int .i64 a0, .int .i64 (t : Int), .int .i64 aw, .int .i64 ab] 105 (0, 0))) ∧
         Aside0 ((if st5.waits.getD t false = true then relax kk n s X (L.drop (j + 1)) st5 q else relax kk n s X (L.drop (j + 1)) { st5 with waits := st5.waits.set t true } (q ++ [(t : Int)])).bind (fun r => match r with | .inl l => some (.loop l) | .inr p => farL n s rows kk p.1 p.2) = some R))
        case first =>
         cases cc with
         | false =>
          have H3 := H2.out
          rw [if_neg (fun h => absurd (HC.out.2 h) (by decide)), Option.bind_some, List.isEmpty_nil, if_pos rfl] at H3
          replace H3 := Aside0.mk H3
          clear H2 HC
          go_wp2
          go_meet
          exact ⟨rfl, rfl, rfl, rfl, HF5, BT, H3⟩
         | true =>
          have H3 := H2.out
          rw [if_pos (HC.out.1 rfl)] at H3
          obtain ⟨lp, hlp⟩ : ∃ lp, graph_loops.f kk st5.last (t : Int) (n : Int) = some lp := by
           cases hq : graph_loops.f kk st5.last (t : Int) (n : Int) with
           | none => rw [hq] at H3; cases H3
           | some lp => exact ⟨lp, rfl⟩
          rw [hlp, Option.bind_some] at H3
          replace H3 := Aside0.mk H3
          have HCL := Aside0.mk (fun (W : World) (hW : W.heap[bl]? = some (.cells (encA st5.last) 105 (0, 0))) => loops_any kk (some ⟨bl, 0, none⟩) (n + 1) st5.last (t : Int) (n : Int) lp W (encA_C hW (by have := HF5.out.llast; omega)) (by have := HF5.out.llast; omega) hlp)
          have hll := HF5.out.llast
          have HCL2 := HCL.out
          simp only [hll] at HCL2
          replace HCL := Aside0.mk HCL2
          clear HCL2 hll
          clear H2 HC hlp
          go_wp2
          refine start_ (n := 9) (S := fun w' => w'.heap[g]? = some (.cells #[.int .i64 (n : Int), .slice (some ⟨ob, 0, none⟩) (n + 1) (n + 1)] 103 (0, 0)) ∧ w'.heap[bl]? = some (.cells (encA st5.last) 105 (0, 0)) ∧ w'.heap[ba]? = some (.cells #[.int .i64 a0, .int .i64 (t : Int), .int .i64 aw, .int .i64 ab] 105 (0, 0))) (ds := []) #[false, false, false, false, false, false, false, false, false] (by kernel_rfl) rfl rfl ⟨HF5.out.net, HF5.out.last, BT.out⟩ (fun hHeld => ?_)
          refine pure_ (i := 0) (N := some 154) (v := ?_) (a' := ?_) #[true, false, false, false, false, false, false, false, false] rfl rfl (by kernel_rfl) (fun _ _ _ h => h) (Or.inl ⟨by rfl, ?_⟩) ?_ ?_
          rotate_left
          ·intro w'
           go_simp
           with_reducible rfl
          rotate_left
          ·simp only [Act.put, List.setIfInBounds_toArray, List.set_cons_zero, List.set_cons_succ, i64_w, i32_w]
           rfl
          refine pure_ (i := 1) (N := some 155) (v := ?_) (a' := ?_) #[true, true, false, false, false, false, false, false, false] rfl rfl (by kernel_rfl) (fun _ _ _ h => h) (Or.inl ⟨by rfl, ?_⟩) ?_ ?_
          rotate_left
          ·intro w'
           go_simp
           with_reducible rfl
          rotate_left
          ·simp only [Act.put, List.setIfInBounds_toArray, List.set_cons_zero, List.set_cons_succ, i64_w, i32_w]
           rfl
          refine take_ (i := 2) (N := some 156) (v := ?_) (a' := ?_) #[true, true, true, false, false, false, false, false, false] rfl rfl (by kernel_rfl) (fun _ _ _ h => h) (Or.inl ⟨by rfl, ?_⟩) hHeld ?_ ?_
          rotate_left
          ·rintro w' ⟨s0, s1, s2⟩
           have z0 := (blk_cell s0 0).trans rfl
           have z1 := (blk_cell s2 1).trans rfl
           go_simp
           with_reducible rfl
          rotate_left
          ·simp only [Act.put, List.setIfInBounds_toArray, List.set_cons_zero, List.set_cons_succ, i64_w, i32_w]
           rfl
          refine pure_ (i := 3) (N := some 157) (v := ?_) (a' := ?_) #[true, true, true, true, false, false, false, false, false] rfl rfl (by kernel_rfl) (fun _ _ _ h => h) (Or.inl ⟨by rfl, ?_⟩) ?_ ?_
          rotate_left
          ·intro w'
           go_simp
           with_reducible rfl
          rotate_left
          ·simp only [Act.put, List.setIfInBounds_toArray, List.set_cons_zero, List.set_cons_succ, i64_w, i32_w]
           rfl
          refine pure_ (i := 4) (N := some 158) (v := ?_) (a' := ?_) #[true, true, true, true, true, false, false, false, false] rfl rfl (by kernel_rfl) (fun _ _ _ h => h) (Or.inl ⟨by rfl, ?_⟩) ?_ ?_
          rotate_left
          ·intro w'
           go_simp
           with_reducible rfl
          rotate_left
          ·simp only [Act.put, List.setIfInBounds_toArray, List.set_cons_zero, List.set_cons_succ, i64_w, i32_w]
           rfl
          refine pure_ (i := 5) (N := some 159) (v := ?_) (a' := ?_) #[true, true, true, true, true, true, false, false, false] rfl rfl (by kernel_rfl) (fun _ _ _ h => h) (Or.inl ⟨by rfl, ?_⟩) ?_ ?_
          rotate_left
          ·intro w'
           go_simp
           with_reducible rfl
          rotate_left
          ·simp only [Act.put, List.setIfInBounds_toArray, List.set_cons_zero, List.set_cons_succ, i64_w, i32_w]
           rfl
          refine take_ (i := 6) (N := some 160) (v := ?_) (a' := ?_) #[true, true, true, true, true, true, true, false, false] rfl rfl (by kernel_rfl) (fun _ _ _ h => h) (Or.inl ⟨by rfl, ?_⟩) hHeld ?_ ?_
          rotate_left
          ·rintro w' ⟨s0, s1, s2⟩
           have z0 := (blk_cell s0 0).trans rfl
           have z1 := (blk_cell s2 1).trans rfl
           go_simp
           with_reducible rfl
          rotate_left
          ·simp only [Act.put, List.setIfInBounds_toArray, List.set_cons_zero, List.set_cons_succ, i64_w, i32_w]
           rfl
          refine one_ (i := 7) (N := some 161) #[true, true, true, true, true, true, true, true, false] rfl rfl (by kernel_rfl) (by decide) (fun K hK => ?_)
          refine goes_ Try.func92 (by kernel_rfl) rfl #[.slice (some ⟨bl, 0, none⟩) (n + 1) (n + 1), .int .i64 (t : Int), .int .i64 (n : Int)] (by rfl) rfl rfl (by (try simp only [List.map_toArray, List.map_cons, List.map_nil]); first | done | rfl) ?_
          refine (HCL.out _ hHeld.2.1).mono ?_
          rintro e2 w7 ⟨v16, rfl, hv16, hb7, hv0⟩
          refine ⟨_, rfl, ?_⟩
          refine hK.out _ _ ⟨blk_below hHeld.1 hb7, blk_below hHeld.2.1 hb7, blk_below hHeld.2.2 hb7⟩ (fun hHeld => ?_)
          clear hK K
          have HF7 := Aside0.mk (HF5.out.drew.grow hb7)
          have BT7 := Aside0.mk (blk_below (w := wc.drew) BT.out hb7)
          have HV := Aside0.mk (Kd.R_lower hv16 HF5.out.drew.below.size)
          have HV0 := Aside0.mk hv0
          clear hv16 hb7 hv0
          refine norm_ (a' := ?_) ?_ ?_
          rotate_left
          ·show Act.put _ (some 161) _ = _
           simp only [Act.put, List.setIfInBounds_toArray, List.set_cons_zero, List.set_cons_succ, i64_w, i32_w]
           rfl
          refine pure_ (i := 8) (N := some 16) (v := ?_) (a' := ?_) #[true, true, true, true, true, true, true, true, true] rfl rfl (by kernel_rfl) (fun _ _ _ h => h) (Or.inl ⟨by rfl, ?_⟩) ?_ ?_
          rotate_left
          ·intro w'
           go_simp
           with_reducible rfl
          rotate_left
          ·simp only [Act.put, List.setIfInBounds_toArray, List.set_cons_zero, List.set_cons_succ, i64_w, i32_w]
           rfl
          refine done_ (by kernel_rfl) ?_
          clear hHeld HF5 BT HCL
          cases lp with
          | nil =>
           have hv := HV0.out rfl
           subst hv
           have H4 := H3.out
           rw [List.isEmpty_nil, if_pos rfl] at H4
           replace H4 := Aside0.mk H4
           clear H3 HV HV0
           have qn : ∀ (w : World), (binOp .neq 82 (.slice none 0 0) (.slice none 0 0)).run Try.prog w = .ok (.bool false) w := fun w => run_neq_slice_nil_any (P := Try.prog) w 82 105 none 0 0 0 0 Try.underlying82
           go_wp2
           go_meet
           exact ⟨rfl, rfl, rfl, rfl, HF7, BT7, H4⟩
          | cons a1 lp =>
           have hR : FRes.loop (a1 :: lp) = R := by have := H3.out; simpa using this
           subst hR
           obtain ⟨b7, cap7, hv, _⟩ := Kd.R_form HV.out (by simp)
           subst hv
           clear HV0 H3
           obtain ⟨m7, HM⟩ : ∃ m7, Aside0 ((a1 :: lp).length = m7) := ⟨_, ⟨rfl⟩⟩
           rw [HM.out] at HV ⊢
           have qn : ∀ (w : World), (binOp .neq 82 (.slice (some ⟨b7, 0, none⟩) m7 cap7) (.slice none 0 0)).run Try.prog w = .ok (.bool true) w := fun w => run_neq_slice_nil_any (P := Try.prog) w 82 105 (some ⟨b7, 0, none⟩) _ cap7 0 0 Try.underlying82
           go_wp2
           (try simp only [Exit.inBlock, Exit.then])
           refine bodyPost_ret (results_list (rs := [.tmp 4, .tmp 5, .tmp 6, .tmp 7]) rfl (by simp) (.tmp (.tmp (.tmp (.tmp .nil))))) rfl ?_
           exact ⟨_, _, _, _, rfl, ⟨rfl, rfl, rfl, by simp, HV.out⟩, HF7.out.below⟩
        case rest =>
        clear HF5 BT H2 HC
        obtain ⟨rfl, rfl, rfl, rfl, HF6, BT6, H6⟩ := hcut
        have y1 : wc.cell? ⟨ba, 1, none⟩ = some (.int .i64 (t : Int)) := (blk_cell BT6.out 1).trans rfl
        have zw : wc.cell? ⟨bw, t, none⟩ = some (.bool (st5.waits.getD t false)) := (blk_cell HF6.out.waits t).trans (encB_get (by have := HF6.out.lwaits; omega))
        cases hwt : st5.waits.getD t false with
        | true =>
         rw [hwt] at zw
         have H7 := H6.out
         rw [if_pos hwt] at H7
         replace H7 := Aside0.mk H7
         clear hwt H6
         go_wp2
         go_roundg (L.length - j - 1)
         case measure => have := HK.out; omega
         case rel => exact ⟨j + 1, st5, cl, q, e, rfl, rfl, rfl, rfl, by go_num, ⟨by omega⟩, HE, H7, HF6⟩
        | false =>
         rw [hwt] at zw
         have H7 := H6.out
         rw [if_neg (by rw [hwt]; decide)] at H7
         replace H7 := Aside0.mk H7
         clear hwt H6
         have HF7 := Aside0.mk (HF6.out.putW t true)
         obtain ⟨xe, hxe⟩ := HF7.out.endCell HE.out
         have HXE := Aside0.mk (blk_put (blk_alloc hxe (.cells #[.int .i64 (t : Int), .pointer none] 129)) 1 (.pointer (some ⟨wc.heap.size, 0, none⟩)) rfl)
         have ze : ((wc.setCell ⟨bw, t, none⟩ (.bool true)).alloc (.cells #[.int .i64 (t : Int), .pointer none] 129)).cell? ⟨e, 1, none⟩ = some (.pointer none) := (blk_cell (blk_alloc hxe _) 1).trans rfl
         have zfe : ((wc.setCell ⟨bw, t, none⟩ (.bool true)).alloc (.cells #[.int .i64 (t : Int), .pointer none] 129)).frozen? ⟨e, 1, none⟩ = false := blk_frozen (blk_alloc hxe _) 1
         have y2 : (wc.setCell ⟨bw, t, none⟩ (.bool true)).cell? ⟨ba, 1, none⟩ = some (.int .i64 (t : Int)) := (blk_cell (blk_far BT6.out (p := ⟨bw, t, none⟩) (ty_ne BT6.out HF6.out.waits (by decide)) (.bool true)) 1).trans rfl
         have zfw : wc.frozen? ⟨bw, t, none⟩ = false := blk_frozen HF6.out.waits _
         have HF8 := HF7.out.push HE.out (t : Int) (by omega) (by omega)
         rw [World.size_setCell] at HF8
         have HE8 := Aside0.mk (show ((b1 :: cl) ++ [wc.heap.size]).getLast? = some wc.heap.size by rw [List.getLast?_append]; rfl)
         replace HF8 := Aside0.mk HF8
         have ze2 := (blk_cell HXE.out 1).trans rfl
         clear hxe HXE HF7 HF6 HE
         go_wp2
         go_roundg (L.length - j - 1)
         case measure => have := HK.out; omega
         case rel => exact ⟨j + 1, _, cl ++ [wc.heap.size], q ++ [(t : Int)], _, rfl, rfl, rfl, rfl, by go_num, ⟨by omega⟩, HE8, H7, HF8⟩
      ·have HJ := Aside0.mk (show j = L.length by have := HK.out; omega)
       have H3 := Aside0.mk (show farL n s rows kk st q = some R by have := H.out; rw [HJ.out, List.drop_length] at this; simpa [relax] using this)
       have zn : wr.cell? ⟨b1, 1, none⟩ = some (.pointer (cl.head?.map fun c => ⟨c, 0, none⟩)) := (blk_cell HF.out.chain.head 1).trans rfl
       go_wp2
       go_roundg kk
       case measure => omega
       case rel => exact ⟨st, cl, q, e, rfl, rfl, rfl, rfl, rfl, ⟨fun h => by
        have := HE.out
        cases cl with
        | nil => exact absurd rfl h
        | cons c cl => simpa using this⟩, H3, ⟨HF.out.pop⟩⟩
end Go.Proofs.Ytegejpcglabhbaa.G
