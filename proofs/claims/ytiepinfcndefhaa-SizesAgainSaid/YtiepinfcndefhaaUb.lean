/- The reference's called, Valid: the walks. No condition. -/
import Derived.Test.YtiepinfcndefhaaUa
namespace Go.Proofs.Ytiepinfcndefhaa.S
open Go.RowKit Go.Proofs.YtiepinfcndefhaaW.PrintWords Go.Proofs.YtiepinfcndefhaaW.PrintLast Go.Proofs.YtiepinfcndefhaaW.PrintMore
set_option linter.unusedVariables false
set_option linter.unusedSimpArgs false

set_option maxHeartbeats 4000000 in
set_option maxRecDepth 100000 in
theorem called_calls (src dst : ByteArray) (t : List Int) (hl : t.length = 36) (w : World) :
    Calls Try.prog 71 #[.string src, .string dst, .agg (cI t)] w fun e w' => ∃ v, e = .returned (.agg #[.string src, .string dst, v]) ∧ kAc.R 24 w' w.heap.size (fun _ => True) v (arcsN t 36) ∧ Below w.heap.size w w' := by
  have HTS := Aside0.mk (cI_size hl)
  have HAT := Aside0.mk (fun i k (hi : i < 6) (hk : k < 6) => cI_at hl hi hk)
  generalize cI t = ct at HTS HAT ⊢
  have H0 : Aside0 (Ca w (((w.alloc (.cells ct 95)).alloc (.cells #[.string ⟨#[]⟩, .string ⟨#[]⟩, .slice none 0 0] 34)).alloc (.cells #[.string src, .string dst, .slice none 0 0] 34)) (w.heap.size + 1 + 1) ⟨src, dst, t⟩ 0 (.slice none 0 0)) := ⟨⟨below_step (below_step (below_alloc (Below.refl _ _) _) (below_alloc (Below.refl _ _) _)) (below_alloc (Below.refl _ _) _), (by
    have h1 := blk_new ((w.alloc (.cells ct 95)).alloc (.cells #[.string ⟨#[]⟩, .string ⟨#[]⟩, .slice none 0 0] 34)) (.cells #[.string src, .string dst, .slice none 0 0] 34)
    rw [World.size_alloc, World.size_alloc] at h1
    exact h1), Kd.R_nil _ _ _ _ _, by omega⟩⟩
  have HZ0 : Aside0 ((((w.alloc (.cells ct 95)).alloc (.cells #[.string ⟨#[]⟩, .string ⟨#[]⟩, .slice none 0 0] 34)).alloc (.cells #[.string src, .string dst, .slice none 0 0] 34)).heap[w.heap.size + 1]? = some (.cells #[.string ⟨#[]⟩, .string ⟨#[]⟩, .slice none 0 0] 34 (0, 0))) := ⟨by
    have h1 := blk_new (w.alloc (.cells ct 95)) (.cells #[.string ⟨#[]⟩, .string ⟨#[]⟩, .slice none 0 0] 34)
    rw [World.size_alloc] at h1
    exact blk_below h1 (below_alloc (Below.refl _ _) _)⟩
  have HT0 : Aside0 ((((w.alloc (.cells ct 95)).alloc (.cells #[.string ⟨#[]⟩, .string ⟨#[]⟩, .slice none 0 0] 34)).alloc (.cells #[.string src, .string dst, .slice none 0 0] 34)).heap[w.heap.size]? = some (.cells ct 95 (0, 0))) := ⟨blk_below (blk_below (blk_new w _) (below_alloc (Below.refl _ _) _)) (below_alloc (Below.refl _ _) _)⟩
  go_enter Try.func71, Try.ntmps71
  go_wp2
  generalize ((w.alloc (.cells ct 95)).alloc (.cells #[.string ⟨#[]⟩, .string ⟨#[]⟩, .slice none 0 0] 34)).alloc (.cells #[.string src, .string dst, .slice none 0 0] 34) = W0 at H0 HZ0 HT0 ⊢
  have HSB := Aside0.mk (show w.heap.size + 1 ≠ w.heap.size + 1 + 1 ∧ w.heap.size ≠ w.heap.size + 1 + 1 by omega)
  generalize w.heap.size + 1 + 1 = cb at H0 HSB ⊢
  have HZG := Aside0.mk (show w.heap.size ≤ w.heap.size + 1 by omega)
  generalize w.heap.size + 1 = zb at HZ0 HSB HZG ⊢
  go_loopg [8] 6 (fun kq v8 w' => ∃ (i : Nat) (v : Value), v8 = .int .i64 (i : Int) ∧ Aside0 (kq + i = 6) ∧ Aside0 (Ca w w' cb ⟨src, dst, t⟩ (6 * i) v) ∧ Aside0 (w'.heap[zb]? = some (.cells #[.string ⟨#[]⟩, .string ⟨#[]⟩, .slice none 0 0] 34 (0, 0))) ∧ Aside0 (w'.heap[w.heap.size]? = some (.cells ct 95 (0, 0))))
  case atStart => exact ⟨0, _, rfl, ⟨rfl⟩, H0, HZ0, HT0⟩
  case round =>
    clear H0 HZ0 HT0
    obtain ⟨i, v, rfl, HK, HC, HZ, HT1⟩ := hrel
    by_cases hlt : i < 6
    · have hdx : decide ((i : Int) < 6) = true := decide_eq_true (by omega)
      have hib : wrap64 ((i : Int) + 1) = (i : Int) + 1 := by unfold wrap64; omega
      have b1 : (i : Int) < 6 := by omega
      have b3 : (0 : Int) ≤ (i : Int) := by omega
      have HLI := Aside0.mk hlt
      go_wp2
      clear hdx
      go_loopg [9] 6 (fun kq2 v9 w' => ∃ (k : Nat) (v : Value), v9 = .int .i64 (k : Int) ∧ Aside0 (kq2 + k = 6) ∧ Aside0 (Ca w w' cb ⟨src, dst, t⟩ (6 * i + k) v) ∧ Aside0 (w'.heap[zb]? = some (.cells #[.string ⟨#[]⟩, .string ⟨#[]⟩, .slice none 0 0] 34 (0, 0))) ∧ Aside0 (w'.heap[w.heap.size]? = some (.cells ct 95 (0, 0))))
      case atStart => exact ⟨0, _, rfl, ⟨rfl⟩, HC, HZ, HT1⟩
      case round =>
        clear HC HZ HT1
        obtain ⟨k, v, rfl, HK2, HC, HZ, HT1⟩ := hrel
        by_cases hlt2 : k < 6
        · have hdx : decide ((k : Int) < 6) = true := decide_eq_true (by omega)
          have hib2 : wrap64 ((k : Int) + 1) = (k : Int) + 1 := by unfold wrap64; omega
          have b2 : (k : Int) < 6 := by omega
          have b4 : (0 : Int) ≤ (k : Int) := by omega
          have HZ0 := Aside0.mk (HAT.out i k hlt hlt2)
          have z9 := blk_at HT1.out HZ0.out
          have HST := Aside0.mk (arcsN_step t (i := i) hlt2)
          have HLK := Aside0.mk hlt2
          generalize tat t i k = x at z9 HST HZ0
          by_cases hx : 0 < x
          · have hdp : decide ((0 : Int) < x) = true := decide_eq_true hx
            have HSN := Aside0.mk (HST.out.trans (if_pos hx))
            have HAL := Aside0.mk (show (arcsN t (6 * i + k)).length ≤ 40 by have := arcsN_len t (6 * i + k); omega)
            obtain ⟨A, cp, ev⟩ := Kd.R_slice HC.out.r
            subst ev
            have HC1 := Aside0.mk HC.out.c
            clear HST
            go_wp2
            clear z9 hdp hx hdx
            refine start_ (n := 15) (S := fun w' => Below wr.heap.size wr w') (ds := [12, 13, 14]) #[false, false, false, false, false, false, false, false, false, false, false, false, false, false, false] (by kernel_rfl) rfl rfl (below_drew1 (Below.refl _ _)) (fun hHeld => ?_)
            refine pure_ (i := 0) (N := some 27) (v := ?_) (a' := ?_) #[true, false, false, false, false, false, false, false, false, false, false, false, false, false, false] rfl rfl (by kernel_rfl) (fun _ _ _ h => h) (Or.inl ⟨by rfl, ?_⟩) ?_ ?_
            rotate_left
            · intro w'
              go_simp
              with_reducible rfl
            rotate_left
            · simp only [Act.put, List.setIfInBounds_toArray, List.set_cons_zero, List.set_cons_succ, i64_w, i32_w]
              rfl
            refine take_ (i := 1) (N := some 28) (v := ?_) (a' := ?_) #[true, true, false, false, false, false, false, false, false, false, false, false, false, false, false] rfl rfl (by kernel_rfl) (fun _ _ _ h => h) (Or.inl ⟨by rfl, ?_⟩) hHeld ?_ ?_
            rotate_left
            · rintro w' s0
              have k0 := blk_at (blk_below HC1.out s0) (k := 2) rfl
              go_simp
              with_reducible rfl
            rotate_left
            · simp only [Act.put, List.setIfInBounds_toArray, List.set_cons_zero, List.set_cons_succ, i64_w, i32_w]
              rfl
            refine pure_ (i := 2) (N := some 29) (v := ?_) (a' := ?_) #[true, true, true, false, false, false, false, false, false, false, false, false, false, false, false] rfl rfl (by kernel_rfl) (fun _ _ _ h => h) (Or.inl ⟨by rfl, ?_⟩) ?_ ?_
            rotate_left
            · intro w'
              go_simp
              with_reducible rfl
            rotate_left
            · simp only [Act.put, List.setIfInBounds_toArray, List.set_cons_zero, List.set_cons_succ, i64_w, i32_w]
              rfl
            refine pure_ (i := 3) (N := some 30) (v := ?_) (a' := ?_) #[true, true, true, true, false, false, false, false, false, false, false, false, false, false, false] rfl rfl (by kernel_rfl) (fun _ _ _ h => h) (Or.inl ⟨by rfl, ?_⟩) ?_ ?_
            rotate_left
            · intro w'
              go_simp
              with_reducible rfl
            rotate_left
            · simp only [Act.put, List.setIfInBounds_toArray, List.set_cons_zero, List.set_cons_succ, i64_w, i32_w]
              rfl
            refine pure_ (i := 4) (N := some 31) (v := ?_) (a' := ?_) #[true, true, true, true, true, false, false, false, false, false, false, false, false, false, false] rfl rfl (by kernel_rfl) (fun _ _ _ h => h) (Or.inl ⟨by rfl, ?_⟩) ?_ ?_
            rotate_left
            · intro w'
              go_simp
              with_reducible rfl
            rotate_left
            · simp only [Act.put, List.setIfInBounds_toArray, List.set_cons_zero, List.set_cons_succ, i64_w, i32_w]
              rfl
            refine pure_ (i := 5) (N := some 32) (v := ?_) (a' := ?_) #[true, true, true, true, true, true, false, false, false, false, false, false, false, false, false] rfl rfl (by kernel_rfl) (fun _ _ _ h => h) (Or.inl ⟨by rfl, ?_⟩) ?_ ?_
            rotate_left
            · intro w'
              go_simp
              with_reducible rfl
            rotate_left
            · simp only [Act.put, List.setIfInBounds_toArray, List.set_cons_zero, List.set_cons_succ, i64_w, i32_w]
              rfl
            refine pure_ (i := 6) (N := some 33) (v := ?_) (a' := ?_) #[true, true, true, true, true, true, true, false, false, false, false, false, false, false, false] rfl rfl (by kernel_rfl) (fun _ _ _ h => h) (Or.inl ⟨by rfl, ?_⟩) ?_ ?_
            rotate_left
            · intro w'
              go_simp
              with_reducible rfl
            rotate_left
            · simp only [Act.put, List.setIfInBounds_toArray, List.set_cons_zero, List.set_cons_succ, i64_w, i32_w]
              rfl
            refine pure_ (i := 7) (N := some 34) (v := ?_) (a' := ?_) #[true, true, true, true, true, true, true, true, false, false, false, false, false, false, false] rfl rfl (by kernel_rfl) (fun _ _ _ h => h) (Or.inl ⟨by rfl, ?_⟩) ?_ ?_
            rotate_left
            · intro w'
              go_simp
              with_reducible rfl
            rotate_left
            · simp only [Act.put, List.setIfInBounds_toArray, List.set_cons_zero, List.set_cons_succ, i64_w, i32_w]
              rfl
            refine take_ (i := 8) (N := some 35) (v := ?_) (a' := ?_) #[true, true, true, true, true, true, true, true, true, false, false, false, false, false, false] rfl rfl (by kernel_rfl) (fun _ _ _ h => h) (Or.inl ⟨by rfl, ?_⟩) hHeld ?_ ?_
            rotate_left
            · rintro w' s0
              have z0 := blk_at (blk_below HT1.out s0) HZ0.out
              go_simp
              with_reducible rfl
            rotate_left
            · simp only [Act.put, List.setIfInBounds_toArray, List.set_cons_zero, List.set_cons_succ, i64_w, i32_w]
              rfl
            refine pure_ (i := 9) (N := some 36) (v := ?_) (a' := ?_) #[true, true, true, true, true, true, true, true, true, true, false, false, false, false, false] rfl rfl (by kernel_rfl) (fun _ _ _ h => h) (Or.inl ⟨by rfl, ?_⟩) ?_ ?_
            rotate_left
            · intro w'
              go_simp
              with_reducible rfl
            rotate_left
            · simp only [Act.put, List.setIfInBounds_toArray, List.set_cons_zero, List.set_cons_succ, i64_w, i32_w]
              rfl
            refine pure_ (i := 10) (N := some 37) (v := ?_) (a' := ?_) #[true, true, true, true, true, true, true, true, true, true, true, false, false, false, false] rfl rfl (by kernel_rfl) (fun _ _ _ h => h) (Or.inl ⟨by rfl, ?_⟩) ?_ ?_
            rotate_left
            · intro w'
              go_simp
              with_reducible rfl
            rotate_left
            · simp only [Act.put, List.setIfInBounds_toArray, List.set_cons_zero, List.set_cons_succ, i64_w, i32_w]
              rfl
            refine one_ (i := 11) (N := some 38) #[true, true, true, true, true, true, true, true, true, true, true, true, false, false, false] rfl rfl (by kernel_rfl) (by decide) (fun K hK => ?_)
            refine value_ (by rfl) rfl (w1 := World.alloc (World.drew wr) (.cells #[.int .i64 (i : Int), .int .i64 (k : Int), .bool (x == 2)] 24)) (v := .slice (some ⟨(World.drew wr).heap.size, 0, none⟩) 1 1) (by go_simp) ?_
            have hB := below_step hHeld (below_alloc (Below.refl _ _) (.cells #[.int .i64 (i : Int), .int .i64 (k : Int), .bool (x == 2)] 24))
            refine hK.out _ _ hB (fun _ => ?_)
            clear hK K hB
            refine norm_ (a' := ?_) ?_ ?_
            rotate_left
            · show Act.put _ (some 38) _ = _
              simp only [Act.put, List.setIfInBounds_toArray, List.set_cons_zero, List.set_cons_succ, i64_w, i32_w]
              rfl
            refine last_ (i := 12) (N := some 39) #[true, true, true, true, true, true, true, true, true, true, true, true, true, false, false] rfl rfl (by kernel_rfl) (by decide) (fun K hK => ?_)
            refine Kd.R_append_step kAc (w0 := w) (W := World.drew wr) w.heap.size (by rfl) (.tmp 28) (.tmp 38) 32 24 (.agg #[.int .i64 0, .int .i64 0, .bool false]) 24 rfl Try.underlying32 info24 rfl (by decide) (by omega) (Value.slice A (arcsN t (6 * i + k)).length cp) (arcsN t (6 * i + k)) ⟨(i : Int), (k : Int), x == 2⟩ [.int .i64 (i : Int), .int .i64 (k : Int), .bool (x == 2)] (fun _ => True) (fun k_ => True ∧ some k_ ≠ (Value.slice A (arcsN t (6 * i + k)).length cp).ownBlock) (by rfl) (by rfl) ac_M (fun _ hk => hk) (fun _ _ => trivial) (Kd.R_below HC.out.r hHeld) (below_step HC.out.below hHeld) (below_step HC.out.below hHeld).size (by have := HAL.out; omega) ?_
            intro v1 w1 hr1 hb1 hg1 hat1
            obtain ⟨A1, c1, ev1⟩ := Kd.R_slice hr1
            replace ev1 : v1 = .slice A1 ((arcsN t (6 * i + k)).length + 1) c1 := (by rw [ev1, List.length_append]; rfl)
            subst ev1
            have HCB := Aside0.mk (blk_grown (blk_below HC.out.c hHeld) hg1 (Kd.R_ne (Kd.R_below HC.out.r hHeld) (blk_below HC.out.c hHeld) (by decide)))
            have HZ1 := Aside0.mk (blk_grown (blk_below HZ.out hHeld) hg1 (Kd.R_ne (Kd.R_below HC.out.r hHeld) (blk_below HZ.out hHeld) (by decide)))
            have HTB := Aside0.mk (blk_grown (blk_below HT1.out hHeld) hg1 (Kd.R_ne (Kd.R_below HC.out.r hHeld) (blk_below HT1.out hHeld) (by decide)))
            have HR1 := Aside0.mk hr1
            have HB1 := Aside0.mk hb1
            have hgb : Below wr.heap.size wr w1 → True := fun _ => trivial
            refine hK.out _ _ ?_
            clear hK K hHeld hr1 hb1 hg1 hat1 hgb
            refine norm_ (a' := ?_) ?_ ?_
            rotate_left
            · show Act.put _ (some 39) _ = _
              simp only [Act.put, List.setIfInBounds_toArray, List.set_cons_zero, List.set_cons_succ, i64_w, i32_w]
              rfl
            refine pure_ (i := 13) (N := some 40) (v := ?_) (a' := ?_) #[true, true, true, true, true, true, true, true, true, true, true, true, true, true, false] rfl rfl (by kernel_rfl) (fun _ _ _ h => h) (Or.inl ⟨by rfl, ?_⟩) ?_ ?_
            rotate_left
            · intro w'
              go_simp
              with_reducible rfl
            rotate_left
            · simp only [Act.put, List.setIfInBounds_toArray, List.set_cons_zero, List.set_cons_succ, i64_w, i32_w]
              rfl
            refine last_ (i := 14) (N := none) #[true, true, true, true, true, true, true, true, true, true, true, true, true, true, true] rfl rfl (by kernel_rfl) (by decide) (fun K hK => ?_)
            have z2 := blk_at HCB.out (k := 2) rfl
            have f2 := blk_frozen HCB.out 2
            refine skip_ (by rfl) rfl (w1 := w1.setCell ⟨cb, 2, none⟩ (.slice A1 ((arcsN t (6 * i + k)).length + 1) c1)) (by go_simp) ?_
            refine hK.out _ _ ?_
            clear hK K z2 f2
            refine done_ (by kernel_rfl) ?_
            have HC9 : Aside0 (Ca w (w1.setCell ⟨cb, 2, none⟩ (.slice A1 ((arcsN t (6 * i + k)).length + 1) c1)) cb ⟨src, dst, t⟩ (6 * i + k + 1) (.slice A1 ((arcsN t (6 * i + k)).length + 1) c1)) := ⟨⟨below_set HB1.out HC.out.ge, heap_set w1 cb 2 _ _ 34 HCB.out, by rw [show arcsN (Gr.mk src dst t).tab (6 * i + k + 1) = _ from HSN.out]; exact R_cell HR1.out HCB.out (by decide) 2 _, HC.out.ge⟩⟩
            go_wp2
            go_roundg (6 - k - 1)
            case measure => have := HK2.out; omega
            case rel => exact ⟨k + 1, _, by go_num, ⟨by have := HK2.out; have := HLK.out; omega⟩, HC9, ⟨(Below.heap_setCell w1 ⟨cb, 2, none⟩ _ zb HSB.out.1).trans HZ1.out⟩, ⟨(Below.heap_setCell w1 ⟨cb, 2, none⟩ _ w.heap.size HSB.out.2).trans HTB.out⟩⟩
          · have hdp : decide ((0 : Int) < x) = false := decide_eq_false hx
            have HSN := Aside0.mk (HST.out.trans (if_neg hx))
            clear hx HST
            go_wp2
            go_roundg (6 - k - 1)
            case measure => have := HK2.out; omega
            case rel => exact ⟨k + 1, v, by go_num, ⟨by have := HK2.out; have := HLK.out; omega⟩, ⟨⟨HC.out.below, HC.out.c, by rw [show arcsN (Gr.mk src dst t).tab (6 * i + (k + 1)) = _ from HSN.out]; exact HC.out.r, HC.out.ge⟩⟩, HZ, HT1⟩
        · have hdx : decide ((k : Int) < 6) = false := decide_eq_false (by omega)
          have hk6 : k = 6 := by have := HK2.out; omega
          subst hk6
          clear HK2
          go_wp2
          go_roundg (6 - i - 1)
          case measure => have := HK.out; omega
          case rel => exact ⟨i + 1, v, by go_num, ⟨by have := HK.out; have := HLI.out; omega⟩, ⟨HC.out⟩, HZ, HT1⟩
    · have hdx : decide ((i : Int) < 6) = false := decide_eq_false (by omega)
      have hi6 : i = 6 := by have := HK.out; omega
      subst hi6
      obtain ⟨A, cp, ev⟩ := Kd.R_slice HC.out.r
      subst ev
      have y0 := blk_at HC.out.c (k := 0) rfl
      have y1 := blk_at HC.out.c (k := 1) rfl
      have y2 := blk_at HC.out.c (k := 2) rfl
      clear HK
      go_wp2_with ((with_reducible refine gate_store (t := 34) (p := 6) rfl ?_); refine store_whole rfl rfl rfl zb 34 _ #[.string src, .string dst, .slice A (arcsN t 36).length cp] (by rfl) (by rfl) HZ.out (by kernel_rfl) rfl (by simp [Value.oneCell']) ?_)
      refine bodyPost_ret (v := .agg #[.string src, .string dst, .slice A (arcsN t 36).length cp]) (results_cell1 rfl _ (by rfl) (setRow_at _ zb _ _ 34 HZ.out) rfl Try.underlying34 (by kernel_rfl)) rfl ?_
      exact ⟨.slice A (arcsN t 36).length cp, rfl, R_row HC.out.r HZ.out (by decide) _, below_setRow' HC.out.below HZG.out⟩
end Go.Proofs.Ytiepinfcndefhaa.S
