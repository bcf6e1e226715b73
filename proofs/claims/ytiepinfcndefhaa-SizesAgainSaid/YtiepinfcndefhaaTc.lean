/- The normal call of a graph: the walk. No condition. -/
import Derived.Test.YtiepinfcndefhaaTa
namespace Go.Proofs.Ytiepinfcndefhaa.S
open Go.RowKit Go.Proofs.YtiepinfcndefhaaW.PrintWords Go.Proofs.YtiepinfcndefhaaW.PrintLast Go.Proofs.YtiepinfcndefhaaW.PrintMore
set_option linter.unusedVariables false
set_option linter.unusedSimpArgs false

/-- The arcs of a table up to a place. -/
def arcsN (t : List Int) : Nat → List Ac
  | 0 => []
  | n + 1 => if 0 < tat t (n / 6) (n % 6) then arcsN t n ++ [⟨((n / 6 : Nat) : Int), ((n % 6 : Nat) : Int), tat t (n / 6) (n % 6) == 2⟩] else arcsN t n
def callG (g : Gr) : Cl := ⟨g.src, g.dst, arcsN g.tab 36⟩
theorem arcsN_len (t : List Int) : ∀ n, (arcsN t n).length ≤ n
  | 0 => Nat.le_refl _
  | n + 1 => by
    have := arcsN_len t n
    unfold arcsN
    split
    · simp; omega
    · omega
theorem arcsN_step (t : List Int) {i k : Nat} (hk : k < 6) : arcsN t (6 * i + k + 1) = if 0 < tat t i k then arcsN t (6 * i + k) ++ [⟨(i : Int), (k : Int), tat t i k == 2⟩] else arcsN t (6 * i + k) := by
  have h1 : (6 * i + k) / 6 = i := by omega
  have h2 : (6 * i + k) % 6 = k := by omega
  rw [arcsN, h1, h2]
/-- A graph's table, as the program has it. -/
def cT (t : List Int) : Array Value := (t.map (Value.int .u8)).toArray
def cR (t : List Int) (i : Nat) : Array Value := #[.int .u8 (tat t i 0), .int .u8 (tat t i 1), .int .u8 (tat t i 2), .int .u8 (tat t i 3), .int .u8 (tat t i 4), .int .u8 (tat t i 5)]
theorem cG_cT (g : Gr) (j : Nat) (u : Value) (h : (cT g.tab)[j]? = some u) : (cG g)[2 + j]? = some u := by
  unfold cG
  rw [List.getElem?_toArray, show 2 + j = j + 1 + 1 by omega]
  simp only [List.cons_append, List.nil_append, List.getElem?_cons_succ]
  simpa [cT] using h
set_option maxRecDepth 100000 in
theorem index_tab (t : List Int) (hl : t.length = 36) (i : Nat) (hi : i < 6) (w : World) : (Instr.index 79 (.agg (cT t)) (.int .i64 (i : Int))).run Try.prog w = .ok (.agg (cR t i)) w := by
  have e : cT t = #[.int .u8 (t.getD 0 0), .int .u8 (t.getD 1 0), .int .u8 (t.getD 2 0), .int .u8 (t.getD 3 0), .int .u8 (t.getD 4 0), .int .u8 (t.getD 5 0), .int .u8 (t.getD 6 0), .int .u8 (t.getD 7 0), .int .u8 (t.getD 8 0), .int .u8 (t.getD 9 0), .int .u8 (t.getD 10 0), .int .u8 (t.getD 11 0), .int .u8 (t.getD 12 0), .int .u8 (t.getD 13 0), .int .u8 (t.getD 14 0), .int .u8 (t.getD 15 0), .int .u8 (t.getD 16 0), .int .u8 (t.getD 17 0), .int .u8 (t.getD 18 0), .int .u8 (t.getD 19 0), .int .u8 (t.getD 20 0), .int .u8 (t.getD 21 0), .int .u8 (t.getD 22 0), .int .u8 (t.getD 23 0), .int .u8 (t.getD 24 0), .int .u8 (t.getD 25 0), .int .u8 (t.getD 26 0), .int .u8 (t.getD 27 0), .int .u8 (t.getD 28 0), .int .u8 (t.getD 29 0), .int .u8 (t.getD 30 0), .int .u8 (t.getD 31 0), .int .u8 (t.getD 32 0), .int .u8 (t.getD 33 0), .int .u8 (t.getD 34 0), .int .u8 (t.getD 35 0)] := by
    unfold cT
    conv => lhs; rw [list36 hl]
    rfl
  rw [e]
  have h : i = 0 ∨ i = 1 ∨ i = 2 ∨ i = 3 ∨ i = 4 ∨ i = 5 := by omega
  rcases h with rfl | rfl | rfl | rfl | rfl | rfl <;> rfl
theorem info78 : (Try.prog.info? 78).map (fun i => (i.zero, i.size)) = some (some (.agg #[.int .u8 0, .int .u8 0, .int .u8 0, .int .u8 0, .int .u8 0, .int .u8 0]), 6) := by kernel_rfl
/-- What stands in memory while the arcs are put together. -/
structure Ca (w W : World) (cb : Nat) (g : Gr) (n : Nat) (v : Value) : Prop where
  below : Below w.heap.size w W
  c : W.heap[cb]? = some (.cells #[.string g.src, .string g.dst, v] 34 (0, 0))
  r : kAc.R 24 W w.heap.size (fun _ => True) v (arcsN g.tab n)
  ge : w.heap.size ≤ cb
theorem Ca.go {w W W2 : World} {cb n : Nat} {g : Gr} {v : Value} (t : Ca w W cb g n v) (h : Below W.heap.size W W2) : Ca w W2 cb g n v := ⟨below_step t.below h, blk_below t.c h, Kd.R_below t.r h, t.ge⟩
theorem R_row {α : Type} {d : Kd α} {e base : Nat} {ok : Nat → Prop} {w : World} {v : Value} {xs : List α} (h : d.R e w base ok v xs) {g t : Nat} {c : Array Value} (hb : w.heap[g]? = some (.cells c t (0, 0))) (ht : ∀ q, q ∈ e :: d.E → q ≠ t) (cs : Array Value) : d.R e (w.setRow g cs) base ok v xs :=
  Kd.R_mono (Kd.R_step (Kd.R_types h hb ht) (fun k hk _ => by
    simp only [World.setRow]
    rw [Array.getElem?_modify, if_neg (fun e => hk.2 e.symm)])) (fun _ hk => hk.1)
set_option maxHeartbeats 4000000 in
set_option maxRecDepth 100000 in
theorem call_calls (g : Gr) (hg : GTab g) (w : World) :
    Calls Try.prog 47 #[vG g] w fun e w' => ∃ v, e = .returned (.agg #[.string g.src, .string g.dst, v]) ∧ kAc.R 24 w' w.heap.size (fun _ => True) v (arcsN g.tab 36) ∧ Below w.heap.size w w' := by
  unfold vG
  have sg := Aside0.mk (cG_size hg)
  have HAT := Aside0.mk (cG_cT g)
  have HTL := Aside0.mk hg.len
  have HTS := Aside0.mk (show (cT g.tab).size = 36 by simp [cT, hg.len])
  have g0 := cG_0 g
  have g1 := cG_1 g
  generalize hcg : cG g = cg at g0 g1 sg HAT
  clear hcg
  go_enter Try.func47, Try.ntmps47
  have t0 := blk_at (blk_new w (.cells cg 81)) g0
  have t1 := blk_at (blk_new w (.cells cg 81)) g1
  go_wp2_with (first | ((with_reducible refine gate_load (t := 79) (x := .tmp 13) rfl ?_); refine run_law (by rfl) (.agg (cT g.tab)) (part_run (ty := 79) (x := .tmp 13) (b := w.heap.size) (f := 2) (t := 81) (all := cg) (cs := cT g.tab) ?h1 ?h2 ?hb HAT.out ?h3 Try.underlying79 ?h4) ?_; (case h1 => rfl); (case h2 => rfl); (case hb => exact blk_below (blk_below (blk_new w _) (below_alloc (Below.refl _ _) _)) (below_alloc (Below.refl _ _) _)); (case h3 => rfl); (case h4 => rw [HTS.out]; kernel_rfl)))
  have H0 : Aside0 (Ca w (((w.alloc (.cells cg 81)).alloc (.cells #[.string ⟨#[]⟩, .string ⟨#[]⟩, .slice none 0 0] 34)).alloc (.cells #[.string g.src, .string g.dst, .slice none 0 0] 34)) (w.heap.size + 1 + 1) g 0 (.slice none 0 0)) := ⟨⟨below_step (below_step (below_alloc (Below.refl _ _) _) (below_alloc (Below.refl _ _) _)) (below_alloc (Below.refl _ _) _), (by
    have h1 := blk_new ((w.alloc (.cells cg 81)).alloc (.cells #[.string ⟨#[]⟩, .string ⟨#[]⟩, .slice none 0 0] 34)) (.cells #[.string g.src, .string g.dst, .slice none 0 0] 34)
    rw [World.size_alloc, World.size_alloc] at h1
    exact h1), Kd.R_nil _ _ _ _ _, by omega⟩⟩
  have HZ0 : Aside0 ((((w.alloc (.cells cg 81)).alloc (.cells #[.string ⟨#[]⟩, .string ⟨#[]⟩, .slice none 0 0] 34)).alloc (.cells #[.string g.src, .string g.dst, .slice none 0 0] 34)).heap[w.heap.size + 1]? = some (.cells #[.string ⟨#[]⟩, .string ⟨#[]⟩, .slice none 0 0] 34 (0, 0))) := ⟨by
    have h1 := blk_new (w.alloc (.cells cg 81)) (.cells #[.string ⟨#[]⟩, .string ⟨#[]⟩, .slice none 0 0] 34)
    rw [World.size_alloc] at h1
    exact blk_below h1 (below_alloc (Below.refl _ _) _)⟩
  clear t0 t1 g0 g1
  have HIT := Aside0.mk (fun i (h : i < 6) W => index_tab g.tab hg.len i h W)
  have HIR := Aside0.mk (fun i j (h : j < 6) W => index_row g.tab i j h W)
  generalize ((w.alloc (.cells cg 81)).alloc (.cells #[.string ⟨#[]⟩, .string ⟨#[]⟩, .slice none 0 0] 34)).alloc (.cells #[.string g.src, .string g.dst, .slice none 0 0] 34) = W0 at H0 HZ0 ⊢
  have HSB := Aside0.mk (show w.heap.size + 1 ≠ w.heap.size + 1 + 1 by omega)
  generalize w.heap.size + 1 + 1 = cb at H0 HSB ⊢
  have HZG := Aside0.mk (show w.heap.size ≤ w.heap.size + 1 by omega)
  generalize w.heap.size + 1 = zb at HZ0 HSB HZG ⊢
  generalize hct : cT g.tab = ct at HTS HIT ⊢
  clear hct HAT
  obtain ⟨src, dst, tab⟩ := g
  go_loopg [15] 6 (fun kq v15 w' => ∃ (i : Nat) (v : Value), v15 = .int .i64 (i : Int) ∧ Aside0 (kq + i = 6) ∧ Aside0 (Ca w w' cb ⟨src, dst, tab⟩ (6 * i) v) ∧ Aside0 (w'.heap[zb]? = some (.cells #[.string ⟨#[]⟩, .string ⟨#[]⟩, .slice none 0 0] 34 (0, 0))))
  case atStart => exact ⟨0, _, rfl, ⟨rfl⟩, H0, HZ0⟩
  case round =>
    clear H0 HZ0
    obtain ⟨i, v, rfl, HK, HC, HZ⟩ := hrel
    by_cases hlt : i < 6
    · have hdx : decide ((i : Int) < 6) = true := decide_eq_true (by omega)
      have hit := HIT.out i hlt
      have hib : wrap64 ((i : Int) + 1) = (i : Int) + 1 := by unfold wrap64; omega
      have HCR := Aside0.mk (show (cR tab i).size = 6 from rfl)
      have HLI := Aside0.mk hlt
      obtain ⟨cr, hcr⟩ : ∃ c, c = cR tab i := ⟨_, rfl⟩
      have HIX := Aside0.mk (fun (j : Nat) h W => show (Instr.index 78 (.agg cr) (.int .i64 (j : Int))).run Try.prog W = .ok (.int .u8 (tat tab i j)) W from by rw [hcr]; exact HIR.out i j h W)
      have HC1 := Aside0.mk (show cr.all (·.oneCell') = true by rw [hcr]; simp [cR, Value.oneCell'])
      rw [← hcr] at hit HCR
      clear hcr
      go_wp2_with (first | ((with_reducible refine gate_alloc (t := 78) rfl ?_); refine alloc_zero rfl rfl #[.int .u8 0, .int .u8 0, .int .u8 0, .int .u8 0, .int .u8 0, .int .u8 0] (fun w => (zero_of_info info78).1 w) ?_) | ((with_reducible refine gate_store (t := 78) (p := 5) rfl ?_); refine store_last rfl rfl rfl _ 78 _ cr (by rfl) (by rfl) rfl (by rw [HCR.out]; kernel_rfl) (HCR.out.symm) HC1.out ?_) | ((with_reducible refine gate_load (t := 78) (x := .tmp 5) rfl ?_); refine load_whole rfl rfl _ 78 cr _ (by rfl) (blk_new _ _) Try.underlying78 rfl (by rw [HCR.out]; kernel_rfl) ?_))
      have HC2 := Aside0.mk (HC.out.go (below_alloc (Below.refl _ _) (.cells cr 78)))
      have HZ2 := Aside0.mk (blk_below HZ.out (below_alloc (Below.refl _ _) (.cells cr 78)))
      clear hit hdx
      generalize wr.alloc (.cells cr 78) = W2 at HC2 HZ2 ⊢
      go_loopg [20] 6 (fun kq2 v20 w' => ∃ (k : Nat) (v : Value), v20 = .int .i64 (k : Int) ∧ Aside0 (kq2 + k = 6) ∧ Aside0 (Ca w w' cb ⟨src, dst, tab⟩ (6 * i + k) v) ∧ Aside0 (w'.heap[zb]? = some (.cells #[.string ⟨#[]⟩, .string ⟨#[]⟩, .slice none 0 0] 34 (0, 0))))
      case atStart => exact ⟨0, _, rfl, ⟨rfl⟩, HC2, HZ2⟩
      case round =>
        clear HC2 HZ2 HC HZ
        obtain ⟨k, v, rfl, HK2, HC, HZ⟩ := hrel
        by_cases hlt2 : k < 6
        · have hdx : decide ((k : Int) < 6) = true := decide_eq_true (by omega)
          have hix := HIX.out k hlt2
          have hib2 : wrap64 ((k : Int) + 1) = (k : Int) + 1 := by unfold wrap64; omega
          have HST := Aside0.mk (arcsN_step tab (i := i) hlt2)
          have HLK := Aside0.mk hlt2
          generalize tat tab i k = x at hix HST
          by_cases hx : 0 < x
          · have hdp : decide ((0 : Int) < x) = true := decide_eq_true hx
            have HSN := Aside0.mk (HST.out.trans (if_pos hx))
            have HAL := Aside0.mk (show (arcsN tab (6 * i + k)).length ≤ 40 by have := arcsN_len tab (6 * i + k); omega)
            obtain ⟨A, cp, ev⟩ := Kd.R_slice HC.out.r
            subst ev
            have y2 := blk_at HC.out.c (k := 2) rfl
            clear hx HST
            go_wp2_with (at_builtin; go_loud (refine Kd.R_append kAc (w0 := w) w.heap.size rfl (.tmp 27) (.tmp 33) 32 24 (.agg #[.int .i64 0, .int .i64 0, .bool false]) 24 rfl Try.underlying32 info24 rfl (by decide) (by omega) (.slice A (arcsN tab (6 * i + k)).length cp) (arcsN tab (6 * i + k)) ⟨(i : Int), (k : Int), x == 2⟩ [.int .i64 (i : Int), .int .i64 (k : Int), .bool (x == 2)] (fun _ => True) (fun k_ => True ∧ some k_ ≠ (Value.slice A (arcsN tab (6 * i + k)).length cp).ownBlock) rfl rfl ac_M (fun _ hk => hk) (fun _ _ => trivial) HC.out.r HC.out.below HC.out.below.size (by have := HAL.out; omega) ?_; intro v1 w1 hr1 hb1 hg1 hat1; obtain ⟨A1, c1, ev1⟩ := Kd.R_slice hr1; replace ev1 : v1 = .slice A1 ((arcsN tab (6 * i + k)).length + 1) c1 := (by rw [ev1, List.length_append]; rfl); subst ev1; have HCB := Aside0.mk (blk_grown HC.out.c hg1 (Kd.R_ne HC.out.r HC.out.c (by decide))); have HZ1 := Aside0.mk (blk_grown HZ.out hg1 (Kd.R_ne HC.out.r HZ.out (by decide))); have HR1 := Aside0.mk hr1; have HB1 := Aside0.mk hb1; clear hr1 hb1 hg1 hat1 y2; have z2 := blk_at HCB.out (k := 2) rfl; have f2 := blk_frozen HCB.out 2))
            have HC9 : Aside0 (Ca w (w1.setCell ⟨cb, 2, none⟩ (.slice A1 ((arcsN tab (6 * i + k)).length + 1) c1)) cb ⟨src, dst, tab⟩ (6 * i + k + 1) (.slice A1 ((arcsN tab (6 * i + k)).length + 1) c1)) := ⟨⟨below_set HB1.out HC.out.ge, heap_set w1 cb 2 _ _ 34 HCB.out, by rw [show arcsN (Gr.mk src dst tab).tab (6 * i + k + 1) = _ from HSN.out]; exact R_cell HR1.out HCB.out (by decide) 2 _, HC.out.ge⟩⟩
            go_roundg (6 - k - 1)
            case measure => have := HK2.out; omega
            case rel => exact ⟨k + 1, _, by go_num, ⟨by have := HK2.out; have := HLK.out; omega⟩, HC9, ⟨(Below.heap_setCell w1 ⟨cb, 2, none⟩ _ zb HSB.out).trans HZ1.out⟩⟩
          · have hdp : decide ((0 : Int) < x) = false := decide_eq_false hx
            have HSN := Aside0.mk (HST.out.trans (if_neg hx))
            clear hx HST
            go_wp2
            go_roundg (6 - k - 1)
            case measure => have := HK2.out; omega
            case rel => exact ⟨k + 1, v, by go_num, ⟨by have := HK2.out; have := HLK.out; omega⟩, ⟨⟨HC.out.below, HC.out.c, by rw [show arcsN (Gr.mk src dst tab).tab (6 * i + (k + 1)) = _ from HSN.out]; exact HC.out.r, HC.out.ge⟩⟩, HZ⟩
        · have hdx : decide ((k : Int) < 6) = false := decide_eq_false (by omega)
          have hk6 : k = 6 := by have := HK2.out; omega
          subst hk6
          clear HK2
          go_wp2
          go_roundg (6 - i - 1)
          case measure => have := HK.out; omega
          case rel => exact ⟨i + 1, v, by go_num, ⟨by have := HK.out; have := HLI.out; omega⟩, ⟨HC.out⟩, HZ⟩
    · have hdx : decide ((i : Int) < 6) = false := decide_eq_false (by omega)
      have hi6 : i = 6 := by have := HK.out; omega
      subst hi6
      obtain ⟨A, cp, ev⟩ := Kd.R_slice HC.out.r
      subst ev
      have y0 := blk_at HC.out.c (k := 0) rfl
      have y1 := blk_at HC.out.c (k := 1) rfl
      have y2 := blk_at HC.out.c (k := 2) rfl
      clear HK
      go_wp2_with ((with_reducible refine gate_store (t := 34) (p := 2) rfl ?_); refine store_whole rfl rfl rfl zb 34 _ #[.string src, .string dst, .slice A (arcsN tab 36).length cp] (by rfl) (by rfl) HZ.out (by kernel_rfl) rfl (by simp [Value.oneCell']) ?_)
      refine bodyPost_ret (v := .agg #[.string src, .string dst, .slice A (arcsN tab 36).length cp]) (results_cell1 rfl _ (by rfl) (setRow_at _ zb _ _ 34 HZ.out) rfl Try.underlying34 (by kernel_rfl)) rfl ?_
      exact ⟨.slice A (arcsN tab 36).length cp, rfl, R_row HC.out.r HZ.out (by decide) _, below_setRow' HC.out.below HZG.out⟩
end Go.Proofs.Ytiepinfcndefhaa.S
