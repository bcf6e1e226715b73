/- The law SizesKeeps: the walk. No condition. -/
import Derived.Test.YtiepinfcndefhaaTa
namespace Go.Proofs.Ytiepinfcndefhaa.S
open Go.RowKit Go.Proofs.YtiepinfcndefhaaW.PrintWords Go.Proofs.YtiepinfcndefhaaW.PrintLast Go.Proofs.YtiepinfcndefhaaW.PrintMore
set_option linter.unusedVariables false
set_option linter.unusedSimpArgs false

/-- What stands in memory in the loop. -/
structure Kp (w w2 W : World) (l : List Cl) (x : Int × Int × Ac) (i : Nat) (v7 v8 : Value) : Prop where
  below : Below w2.heap.size w2 W
  f : (kOld w).R 34 W w2.heap.size (fun k => True ∧ some k ≠ v8.ownBlock) v7 (fewL l x.1 i)
  m : kCl.R 34 W w2.heap.size (fun k => True ∧ some k ≠ v7.ownBlock) v8 (moreL l x.2.1 x.2.2 i)
theorem Kp.go {w w2 W W2 : World} {l : List Cl} {x : Int × Int × Ac} {i : Nat} {v7 v8 : Value} (t : Kp w w2 W l x i v7 v8) (h : Below W.heap.size W W2) : Kp w w2 W2 l x i v7 v8 := ⟨below_step t.below h, Kd.R_below t.f h, Kd.R_below t.m h⟩
theorem own_old {α : Type} {d : Kd α} {e base : Nat} {ok : Nat → Prop} {W : World} {v : Value} {xs : List α} (h : d.R e W base ok v xs) : ∀ k, W.heap.size ≤ k → some k ≠ v.ownBlock := fun k hk e => by
  have := (Kd.R_bound h).1 k e.symm
  omega
theorem R_new {α : Type} {d : Kd α} {e base : Nat} {ok : Nat → Prop} {W1 W5 : World} {v : Value} {xs : List α} {cb : Nat} (h : d.R e W1 base ok v xs) (hb : Below W1.heap.size W1 W5) (hc : W1.heap.size ≤ cb) (j : Nat) (u : Value) : d.R e (W5.setCell ⟨cb, j, none⟩ u) base (fun k => ok k ∧ k < W1.heap.size) v xs :=
  Kd.R_far (Kd.R_below (Kd.R_mono (Kd.R_bound h) (ok' := fun k => ok k ∧ k < W1.heap.size) (fun k hk => ⟨hk.1, hk.2.2.1⟩)) hb) (p := ⟨cb, j, none⟩) (fun k hk e => by
    have h1 := hk.2
    have h2 : k = cb := e
    omega) u
theorem over_new {α : Type} {d : Kd α} {e base n : Nat} {ok : Nat → Prop} {W6 w7 : World} {v u : Value} {xs : List α} (h : d.R e W6 base (fun k => ok k ∧ k < n) v xs) (hg : W6.grownBy w7 u.ownBlock) (hu : ∀ k, u.ownBlock = some k → n ≤ k) : d.R e w7 base (fun k => ok k ∧ k < n) v xs :=
  Kd.R_step h (fun k hk hlt => hg.block k hlt (fun e => by
    have h1 := hu k e.symm
    have h2 := hk.2
    omega))
theorem set_new {α : Type} {d : Kd α} {e base n : Nat} {ok : Nat → Prop} {w7 : World} {v : Value} {xs : List α} (h : d.R e w7 base (fun k => ok k ∧ k < n) v xs) {cb : Nat} (hc : n ≤ cb) (j : Nat) (u : Value) : d.R e (w7.setCell ⟨cb, j, none⟩ u) base (fun k => ok k ∧ k < n) v xs :=
  Kd.R_far h (p := ⟨cb, j, none⟩) (fun k hk e => by
    have h1 := hk.2
    have h2 : k = cb := e
    omega) u
theorem store_run {P : Program} {W : World} {o : Oper} {a : Act} {ty : TypeId} {x v : Operand} (ho : o.op = .store ty x v) (hN : o.dst = none) (b : Nat) (t : TypeId) (old cs : Array Value) (hx : a.eval x = .pointer (some ⟨b, 0, none⟩)) (hv : a.eval v = .agg cs) (hb : W.heap[b]? = some (.cells old t))
    (hi : (P.info? ty).map (·.size) = some cs.size) (hs : old.size = cs.size) (h1 : cs.all (·.oneCell') = true) : (execOp a.eval o).run P W = .ok .skip (W.setRow b cs) := by
  have hr := run_storeVar_row (P := P) W b t ty old cs hb hi hs h1
  simp [execOp, ho, hx, hv, Instr.storeAt, Instr.sureAddr, Sem.run_bind, Sem.run_pure, Result.andThen, hr]
theorem append_run32 {a : Act} {o : Oper} {s x : Operand} {u y v : Value} {W W2 : World} (ho : o.op = .call { callee := .builtin .append, args := #[s, x], argTypes := #[32, 32] }) (ht : o.type = 32) (hs : a.eval s = u) (hx : a.eval x = y)
    (h : (Builtin.append_ #[32, 32] 32 #[u, y]).run Try.prog W = .ok v W2) : (execOp a.eval o).run Try.prog W = .ok (.value v) W2 := by
  subst hs
  subst hx
  unfold execOp
  rw [ho]
  simp [resolve, invoke, builtin, ht, h, Result.andThen]
theorem small_of {l : List Cl} (h : bigL l 12 = false) : l.length ≤ 12 ∧ ∀ c ∈ l, c.src.size ≤ maxLen ∧ c.dst.size ≤ maxLen ∧ c.arcs.length ≤ 999999 := by
  simp only [bigL, Bool.or_eq_false_iff, decide_eq_false_iff_not, List.any_eq_false] at h
  refine ⟨by have := h.1; omega, fun c hc => ?_⟩
  have h2 := h.2 c hc
  simp only [bigC, Bool.or_eq_true, decide_eq_true_eq, not_or] at h2
  unfold maxLen
  omega
theorem moreL_mem {l : List Cl} {a : Int} {x : Ac} : ∀ n, n ≤ l.length → ∀ c ∈ moreL l a x n, ∃ c0 ∈ l, c.src = c0.src ∧ c.dst = c0.dst ∧ c.arcs.length ≤ c0.arcs.length + 1
  | 0, _, c, hc => by cases hc
  | n + 1, h, c, hc => by
    unfold moreL at hc
    rcases List.mem_append.1 hc with hc | hc
    · exact moreL_mem n (by omega) c hc
    · rw [List.mem_singleton.1 hc, List.getD_eq_getElem?_getD, List.getElem?_eq_getElem (show n < l.length by omega)]
      refine ⟨l[n], List.getElem_mem _, rfl, rfl, ?_⟩
      show (moreC l[n] _ _).arcs.length ≤ _
      unfold moreC
      simp only
      split
      · simp
      · omega
theorem keeps_pure {l : List Cl} {x : Int × Int × Ac} (h : termF l 4 2 = (true, 0)) : ((termF (fewL l x.1 l.length) 4 2 = (true, 0)) ∨ (termF (fewL l x.1 l.length) 4 2).2 = 2) ∧ ((termF (moreL l x.2.1 x.2.2 l.length) 4 2).2 = 0 → (termF (moreL l x.2.1 x.2.2 l.length) 4 2).1 = true) := by
  refine ⟨term_fewer (by decide) (by decide) (by decide) h (fewL_mem l.length (Nat.le_refl _)) (fewL_len _ _ _), term_more (by decide) (by decide) h (moreL_len _ _ _ _) (fun i h1 h2 => ?_)⟩
  rw [moreL_get, List.getD_eq_getElem?_getD, List.getElem?_eq_getElem h1]
  refine ⟨rfl, rfl, ?_⟩
  show ∃ y, (moreC l[i] _ _).arcs = l[i].arcs ++ y
  unfold moreC
  simp only
  split
  · exact ⟨_, rfl⟩
  · exact ⟨[], by simp⟩
set_option maxHeartbeats 4000000 in
set_option maxRecDepth 100000 in
theorem keeps_calls (A : Option Addr) (cp : Nat) (l : List Cl) (x : Int × Int × Ac) (w : World) (h : kCl.C w A l.length l) (hl : l.length ≤ 9223372036854775807) :
    Calls Try.prog 3 #[.slice A l.length cp, .agg #[.int .i64 x.1, .int .i64 x.2.1, .int .i64 x.2.2.a, .int .i64 x.2.2.b, .bool x.2.2.s]] w fun e w' => e = .returned (.bool true) ∧ Below w.heap.size w w' := by
  obtain ⟨xo, xt, xa, xb, xs⟩ := x
  have HC := Aside0.mk h
  have HLL := Aside0.mk hl
  have HX0 := Aside0.mk (blk_new w (.cells #[.int .i64 xo, .int .i64 xt, .int .i64 xa, .int .i64 xb, .bool xs] 26))
  have hb0 := below_alloc (Below.refl w.heap.size w) (.cells #[.int .i64 xo, .int .i64 xt, .int .i64 xa, .int .i64 xb, .bool xs] 26)
  have HB0 := Aside0.mk hb0
  have HBG := Aside0.mk (big_calls A cp l 12 _ (Kd.C_below h hb0) hl)
  clear h hl hb0
  cases hbig : bigL l 12 with
  | true =>
    rw [hbig] at HBG
    clear hbig
    go_enter Try.func3, Try.ntmps3
    go_wp2_with (first | (go_at_call 11; refine HBG.out.mono ?_; rintro e w1 ⟨rfl, hb1⟩; have HB1 := Aside0.mk (below_step HB0.out hb1); clear hb1) | (go_at_call 12; refine (awake_calls _).mono ?_; rintro e w2 ⟨rfl, hb2⟩; have HB2 := Aside0.mk (below_step HB1.out hb2); clear hb2))
    go_ret
    exact ⟨rfl, HB2.out⟩
  | false =>
  rw [hbig] at HBG
  have HSM := Aside0.mk (small_of hbig)
  clear hbig
  have HT := Aside0.mk (fun (W : World) (hb : Below w.heap.size w W) => term_calls (cp := cp) (Kd.C_below HC.out hb) (fun c hc => ⟨(HSM.out.2 c hc).1, (HSM.out.2 c hc).2.1, Nat.le_trans (HSM.out.2 c hc).2.2 (by decide)⟩) HLL.out)
  by_cases hgo : ¬ termF l 4 2 = (true, 0)
  · have HD := Aside0.mk hgo
    clear hgo
    cases h1 : (termF l 4 2).1 with
    | true =>
      have h2 : (termF l 4 2).2 ≠ 0 := fun h2 => HD.out (Prod.ext h1 h2)
      rw [h1] at HT
      generalize (termF l 4 2).2 = y at HT h2
      have n1 : (y != 0) = true := by simpa using h2
      clear h1 h2 HD
      go_enter Try.func3, Try.ntmps3
      go_wp2_with (first | (go_at_call 11; refine HBG.out.mono ?_; rintro e w1 ⟨rfl, hb1⟩; have HB1 := Aside0.mk (below_step HB0.out hb1); clear hb1) | (go_at_call 13; refine (HT.out _ HB1.out).mono ?_; rintro e w2 ⟨rfl, hb2⟩; have HB2 := Aside0.mk (below_step HB1.out hb2); clear hb2) | (go_at_call 12; refine (awake_calls _).mono ?_; rintro e w3 ⟨rfl, hb3⟩; have HB3 := Aside0.mk (below_step HB2.out hb3); clear hb3))
      go_ret
      exact ⟨rfl, HB3.out⟩
    | false =>
      rw [h1] at HT
      generalize (termF l 4 2).2 = y at HT
      clear h1 HD
      by_cases h2 : y = 0
      · subst h2
        go_enter Try.func3, Try.ntmps3
        go_wp2_with (first | (go_at_call 11; refine HBG.out.mono ?_; rintro e w1 ⟨rfl, hb1⟩; have HB1 := Aside0.mk (below_step HB0.out hb1); clear hb1) | (go_at_call 13; refine (HT.out _ HB1.out).mono ?_; rintro e w2 ⟨rfl, hb2⟩; have HB2 := Aside0.mk (below_step HB1.out hb2); clear hb2) | (go_at_call 12; refine (awake_calls _).mono ?_; rintro e w3 ⟨rfl, hb3⟩; have HB3 := Aside0.mk (below_step HB2.out hb3); clear hb3))
        go_ret
        exact ⟨rfl, HB3.out⟩
      · have n1 : (y != 0) = true := by simpa using h2
        clear h2
        go_enter Try.func3, Try.ntmps3
        go_wp2_with (first | (go_at_call 11; refine HBG.out.mono ?_; rintro e w1 ⟨rfl, hb1⟩; have HB1 := Aside0.mk (below_step HB0.out hb1); clear hb1) | (go_at_call 13; refine (HT.out _ HB1.out).mono ?_; rintro e w2 ⟨rfl, hb2⟩; have HB2 := Aside0.mk (below_step HB1.out hb2); clear hb2) | (go_at_call 12; refine (awake_calls _).mono ?_; rintro e w3 ⟨rfl, hb3⟩; have HB3 := Aside0.mk (below_step HB2.out hb3); clear hb3))
        go_ret
        exact ⟨rfl, HB3.out⟩
  have hgo' : termF l 4 2 = (true, 0) := Classical.not_not.1 hgo
  clear hgo
  have HFM := Aside0.mk (keeps_pure (x := (xo, xt, ⟨xa, xb, xs⟩)) hgo')
  rw [hgo'] at HT
  clear hgo'
  go_enter Try.func3, Try.ntmps3
  go_wp2_with (first | (go_at_call 11; refine HBG.out.mono ?_; rintro e w1 ⟨rfl, hb1⟩; have HB1 := Aside0.mk (below_step HB0.out hb1); have HX1 := Aside0.mk (blk_below HX0.out hb1); clear hb1) | (go_at_call 13; refine (HT.out _ HB1.out).mono ?_; rintro e w2 ⟨rfl, hb2⟩; have HB2 := Aside0.mk (below_step HB1.out hb2); have HX2 := Aside0.mk (blk_below HX1.out hb2); clear hb2))
  have HK0 := Aside0.mk (Kp.mk (l := l) (x := (xo, xt, ⟨xa, xb, xs⟩)) (i := 0) (v7 := .slice none 0 0) (w := w) (w2 := w2) (v8 := .slice none 0 0) (Below.refl _ _) (Kd.R_nil _ _ _ _ _) (Kd.R_nil _ _ _ _ _))
  clear HX0 HB0 HX1 HB1 HBG HT
  go_loopg [7, 8, 9] l.length (fun kq v7 v8 v9 w' => ∃ (i : Nat), v9 = .int .i64 (i : Int) ∧ Aside0 (kq + i = l.length) ∧ Aside0 (Kp w w2 w' l (xo, xt, ⟨xa, xb, xs⟩) i v7 v8))
  case atStart => exact ⟨0, rfl, ⟨rfl⟩, HK0⟩
  case round =>
    clear HK0
    obtain ⟨i, rfl, HK, HKP⟩ := hrel
    by_cases hlt : i < l.length
    · have hdx : decide ((i : Int) < (l.length : Int)) = true := decide_eq_true (by omega)
      have hi0 : (i : Int) < (l.length : Int) := by omega
      have hib : wrap64 ((i : Int) + 1) = (i : Int) + 1 := by have := HLL.out; unfold wrap64; omega
      obtain ⟨ad, A1, cc, e, hcp, hr, hq⟩ := cl_get2 HC.out i hlt
      subst e
      have hfe : l.getD i dfC = l[i] := by rw [List.getD_eq_getElem?_getD, List.getElem?_eq_getElem hlt]; rfl
      have HFE := Aside0.mk (show fewL l xo (i + 1) = if (i : Int) = xo then fewL l xo i else fewL l xo i ++ [l[i]] by rw [← hfe]; rfl)
      have HME := Aside0.mk (show moreL l xt ⟨xa, xb, xs⟩ (i + 1) = moreL l xt ⟨xa, xb, xs⟩ i ++ [moreC l[i] (decide ((i : Int) = xt)) ⟨xa, xb, xs⟩] by rw [← hfe]; rfl)
      have HAL := Aside0.mk (Nat.le_trans (HSM.out.2 l[i] (List.getElem_mem hlt)).2.2 (show 999999 ≤ 1000000 by decide))
      have HLT := Aside0.mk hlt
      have HFL := Aside0.mk (show (fewL l xo i).length ≤ 12 ∧ (moreL l xt ⟨xa, xb, xs⟩ i).length ≤ 12 from ⟨by have := fewL_len l xo i; have := HSM.out.1; omega, by rw [moreL_len]; have := HSM.out.1; omega⟩)
      obtain ⟨ci, hci⟩ : ∃ c, c = l[i] := ⟨_, rfl⟩
      rw [← hci] at hcp hr hq HFE HME HAL
      obtain ⟨s, d, arcs⟩ := ci
      have HCP := Aside0.mk (show arcs.length ≤ cc from hcp)
      have HR := Aside0.mk (show kAc.C w A1 arcs.length arcs from hr)
      have HQ := Aside0.mk (show ∀ W, Below w.heap.size w W → W.cell? (ad.add (i * 3)) = some (.string s) ∧ W.cell? ⟨(ad.add (i * 3)).block, (ad.add (i * 3)).off + 1, none⟩ = some (.string d) ∧ W.cell? ⟨(ad.add (i * 3)).block, (ad.add (i * 3)).off + 2, none⟩ = some (.slice A1 arcs.length cc) from hq)
      replace HAL := Aside0.mk (show arcs.length ≤ 1000000 from HAL.out)
      clear hcp hr hq hfe hci
      obtain ⟨q0, q1, q2⟩ := HQ.out wr (below_step HB2.out HKP.out.below)
      have x0 := blk_at (blk_below HX2.out HKP.out.below) (k := 0) rfl
      by_cases ho : (i : Int) = xo
      · have o1 : ((i : Int) != xo) = false := by simp [ho]
        have HFN := Aside0.mk (HFE.out.trans (if_pos ho))
        have HF3 := Aside0.mk (show (kOld w).R 34 wr w2.heap.size (fun k => True ∧ some k ≠ u8.ownBlock) u7 (fewL l xo (i + 1)) by rw [HFN.out]; exact HKP.out.f)
        have HM3 := Aside0.mk HKP.out.m
        have HB3 := Aside0.mk HKP.out.below
        have HB1s := Aside0.mk HKP.out.below.size
        clear ho HFE HKP
        go_wp2
        clear q0 q1 q2 x0 o1
        have HBW := Aside0.mk (below_step HB2.out HB3.out)
        obtain ⟨W1, hW1⟩ : ∃ W1, W1 = wr := ⟨_, rfl⟩
        rw [← hW1] at HF3 HM3 HB3 HB1s HBW ⊢
        clear hW1
        refine start_ (n := 13) (S := fun w' => Below W1.heap.size W1 w') (ds := [12]) #[false, false, false, false, false, false, false, false, false, false, false, false, false] (by kernel_rfl) rfl rfl (below_drew1 (Below.refl _ _)) (fun hHeld => ?_)
        refine pure_ (i := 0) (N := some 47) (v := ?_) (a' := ?_) #[true, false, false, false, false, false, false, false, false, false, false, false, false] rfl rfl (by kernel_rfl) (fun _ _ _ h => h) (Or.inl ⟨by rfl, ?_⟩) ?_ ?_
        rotate_left
        · intro w'
          go_simp
          with_reducible rfl
        rotate_left
        · simp only [Act.put, List.setIfInBounds_toArray, List.set_cons_zero, List.set_cons_succ, i64_w, i32_w]
          rfl
        refine pure_ (i := 1) (N := some 48) (v := ?_) (a' := ?_) #[true, true, false, false, false, false, false, false, false, false, false, false, false] rfl rfl (by kernel_rfl) (fun _ _ _ h => h) (Or.inl ⟨by rfl, ?_⟩) ?_ ?_
        rotate_left
        · intro w'
          go_simp
          with_reducible rfl
        rotate_left
        · simp only [Act.put, List.setIfInBounds_toArray, List.set_cons_zero, List.set_cons_succ, i64_w, i32_w]
          rfl
        refine pure_ (i := 2) (N := some 49) (v := ?_) (a' := ?_) #[true, true, true, false, false, false, false, false, false, false, false, false, false] rfl rfl (by kernel_rfl) (fun _ _ _ h => h) (Or.inl ⟨by rfl, ?_⟩) ?_ ?_
        rotate_left
        · intro w'
          go_simp
          with_reducible rfl
        rotate_left
        · simp only [Act.put, List.setIfInBounds_toArray, List.set_cons_zero, List.set_cons_succ, i64_w, i32_w]
          rfl
        refine pure_ (i := 3) (N := some 50) (v := ?_) (a' := ?_) #[true, true, true, true, false, false, false, false, false, false, false, false, false] rfl rfl (by kernel_rfl) (fun _ _ _ h => h) (Or.inl ⟨by rfl, ?_⟩) ?_ ?_
        rotate_left
        · intro w'
          go_simp
          with_reducible rfl
        rotate_left
        · simp only [Act.put, List.setIfInBounds_toArray, List.set_cons_zero, List.set_cons_succ, i64_w, i32_w]
          rfl
        refine take_ (i := 4) (N := some 51) (v := ?_) (a' := ?_) #[true, true, true, true, true, false, false, false, false, false, false, false, false] rfl rfl (by kernel_rfl) (fun _ _ _ h => h) (Or.inl ⟨by rfl, ?_⟩) hHeld ?_ ?_
        rotate_left
        · rintro w' s0
          obtain ⟨q0, q1, q2⟩ := HQ.out w' (below_step HBW.out s0)
          go_simp
          with_reducible rfl
        rotate_left
        · simp only [Act.put, List.setIfInBounds_toArray, List.set_cons_zero, List.set_cons_succ, i64_w, i32_w]
          rfl
        refine pure_ (i := 5) (N := some 52) (v := ?_) (a' := ?_) #[true, true, true, true, true, true, false, false, false, false, false, false, false] rfl rfl (by kernel_rfl) (fun _ _ _ h => h) (Or.inl ⟨by rfl, ?_⟩) ?_ ?_
        rotate_left
        · intro w'
          go_simp
          with_reducible rfl
        rotate_left
        · simp only [Act.put, List.setIfInBounds_toArray, List.set_cons_zero, List.set_cons_succ, i64_w, i32_w]
          rfl
        refine pure_ (i := 6) (N := some 53) (v := ?_) (a' := ?_) #[true, true, true, true, true, true, true, false, false, false, false, false, false] rfl rfl (by kernel_rfl) (fun _ _ _ h => h) (Or.inl ⟨by rfl, ?_⟩) ?_ ?_
        rotate_left
        · intro w'
          go_simp
          with_reducible rfl
        rotate_left
        · simp only [Act.put, List.setIfInBounds_toArray, List.set_cons_zero, List.set_cons_succ, i64_w, i32_w]
          rfl
        refine pure_ (i := 7) (N := some 54) (v := ?_) (a' := ?_) #[true, true, true, true, true, true, true, true, false, false, false, false, false] rfl rfl (by kernel_rfl) (fun _ _ _ h => h) (Or.inl ⟨by rfl, ?_⟩) ?_ ?_
        rotate_left
        · intro w'
          go_simp
          with_reducible rfl
        rotate_left
        · simp only [Act.put, List.setIfInBounds_toArray, List.set_cons_zero, List.set_cons_succ, i64_w, i32_w]
          rfl
        refine pure_ (i := 8) (N := some 55) (v := ?_) (a' := ?_) #[true, true, true, true, true, true, true, true, true, false, false, false, false] rfl rfl (by kernel_rfl) (fun _ _ _ h => h) (Or.inl ⟨by rfl, ?_⟩) ?_ ?_
        rotate_left
        · intro w'
          go_simp
          with_reducible rfl
        rotate_left
        · simp only [Act.put, List.setIfInBounds_toArray, List.set_cons_zero, List.set_cons_succ, i64_w, i32_w]
          rfl
        refine take_ (i := 9) (N := some 56) (v := ?_) (a' := ?_) #[true, true, true, true, true, true, true, true, true, true, false, false, false] rfl rfl (by kernel_rfl) (fun _ _ _ h => h) (Or.inl ⟨by rfl, ?_⟩) hHeld ?_ ?_
        rotate_left
        · rintro w' s0
          obtain ⟨q0, q1, q2⟩ := HQ.out w' (below_step HBW.out s0)
          go_simp
          with_reducible rfl
        rotate_left
        · simp only [Act.put, List.setIfInBounds_toArray, List.set_cons_zero, List.set_cons_succ, i64_w, i32_w]
          rfl
        refine pure_ (i := 10) (N := some 57) (v := ?_) (a' := ?_) #[true, true, true, true, true, true, true, true, true, true, true, false, false] rfl rfl (by kernel_rfl) (fun _ _ _ h => h) (Or.inl ⟨by rfl, ?_⟩) ?_ ?_
        rotate_left
        · intro w'
          go_simp
          with_reducible rfl
        rotate_left
        · simp only [Act.put, List.setIfInBounds_toArray, List.set_cons_zero, List.set_cons_succ, i64_w, i32_w]
          rfl
        refine one_ (i := 11) (N := some 10) #[true, true, true, true, true, true, true, true, true, true, true, true, false] rfl rfl (by kernel_rfl) (by decide) (fun K hK => ?_)
        refine value_ (by rfl) rfl (w1 := World.alloc W1.drew (.cells #[.string ⟨#[]⟩, .string ⟨#[]⟩, .slice none 0 0] 34)) (v := .pointer (some ⟨W1.drew.heap.size, 0, none⟩)) (by go_simp) ?_
        refine hK.out _ _ (below_step hHeld (below_alloc (Below.refl _ _) _)) (fun hHeld2 => ?_)
        clear hK K
        refine norm_ (a' := ?_) ?_ ?_
        rotate_left
        · show Act.put _ (some 10) _ = _
          simp only [Act.put, List.setIfInBounds_toArray, List.set_cons_zero, List.set_cons_succ, i64_w, i32_w]
          rfl
        refine last_ (i := 12) (N := none) #[true, true, true, true, true, true, true, true, true, true, true, true, true] rfl rfl (by kernel_rfl) (by decide) (fun K hK => ?_)
        refine skip_ (by rfl) rfl (store_run (ty := 34) (x := .tmp 10) (v := .tmp 57) rfl rfl W1.drew.heap.size 34 #[.string ⟨#[]⟩, .string ⟨#[]⟩, .slice none 0 0] #[.string s, .string d, .slice none 0 0] (by rfl) (by rfl) (blk_new _ _) (by kernel_rfl) rfl (by simp [Value.oneCell'])) ?_
        refine hK.out _ _ ?_
        clear hK K hHeld hHeld2
        rw [World.setRow_alloc_new]
        refine done_ (by kernel_rfl) ?_
        have HCB := Aside0.mk (blk_new W1.drew (.cells #[.string s, .string d, .slice none 0 0] 34))
        have HBA := Aside0.mk (below_step (below_drew1 (Below.refl W1.heap.size W1)) (below_alloc (Below.refl W1.drew.heap.size W1.drew) (.cells #[.string s, .string d, .slice none 0 0] 34)))
        generalize W1.drew.alloc (.cells #[.string s, .string d, .slice none 0 0] 34) = W3 at HCB HBA ⊢
        have HCG := Aside0.mk (show W1.heap.size ≤ W1.drew.heap.size from Nat.le_refl _)
        generalize W1.drew.heap.size = cb at HCB HCG ⊢
        have HBW3 := Aside0.mk (below_step HBW.out HBA.out)
        have HB3' := Aside0.mk (below_step HB3.out HBA.out)
        clear HB3
        have HB3 := HB3'
        clear HB3'
        go_wp2
        refine start_ (n := 10) (S := fun w' => Below W3.heap.size W3 w') (ds := [9]) #[false, false, false, false, false, false, false, false, false, false] (by kernel_rfl) rfl rfl (below_drew1 (Below.refl _ _)) (fun hHeld => ?_)
        refine pure_ (i := 0) (N := some 58) (v := ?_) (a' := ?_) #[true, false, false, false, false, false, false, false, false, false] rfl rfl (by kernel_rfl) (fun _ _ _ h => h) (Or.inl ⟨by rfl, ?_⟩) ?_ ?_
        rotate_left
        · intro w'
          go_simp
          with_reducible rfl
        rotate_left
        · simp only [Act.put, List.setIfInBounds_toArray, List.set_cons_zero, List.set_cons_succ, i64_w, i32_w]
          rfl
        refine take_ (i := 1) (N := some 59) (v := ?_) (a' := ?_) #[true, true, false, false, false, false, false, false, false, false] rfl rfl (by kernel_rfl) (fun _ _ _ h => h) (Or.inl ⟨by rfl, ?_⟩) hHeld ?_ ?_
        rotate_left
        · rintro w' s0
          have k0 := blk_at (blk_below HCB.out s0) (k := 2) rfl
          go_simp
          with_reducible rfl
        rotate_left
        · simp only [Act.put, List.setIfInBounds_toArray, List.set_cons_zero, List.set_cons_succ, i64_w, i32_w]
          rfl
        refine pure_ (i := 2) (N := some 60) (v := ?_) (a' := ?_) #[true, true, true, false, false, false, false, false, false, false] rfl rfl (by kernel_rfl) (fun _ _ _ h => h) (Or.inl ⟨by rfl, ?_⟩) ?_ ?_
        rotate_left
        · intro w'
          go_simp
          with_reducible rfl
        rotate_left
        · simp only [Act.put, List.setIfInBounds_toArray, List.set_cons_zero, List.set_cons_succ, i64_w, i32_w]
          rfl
        refine pure_ (i := 3) (N := some 61) (v := ?_) (a' := ?_) #[true, true, true, true, false, false, false, false, false, false] rfl rfl (by kernel_rfl) (fun _ _ _ h => h) (Or.inl ⟨by rfl, ?_⟩) ?_ ?_
        rotate_left
        · intro w'
          go_simp
          with_reducible rfl
        rotate_left
        · simp only [Act.put, List.setIfInBounds_toArray, List.set_cons_zero, List.set_cons_succ, i64_w, i32_w]
          rfl
        refine pure_ (i := 4) (N := some 62) (v := ?_) (a' := ?_) #[true, true, true, true, true, false, false, false, false, false] rfl rfl (by kernel_rfl) (fun _ _ _ h => h) (Or.inl ⟨by rfl, ?_⟩) ?_ ?_
        rotate_left
        · intro w'
          go_simp
          with_reducible rfl
        rotate_left
        · simp only [Act.put, List.setIfInBounds_toArray, List.set_cons_zero, List.set_cons_succ, i64_w, i32_w]
          rfl
        refine pure_ (i := 5) (N := some 63) (v := ?_) (a' := ?_) #[true, true, true, true, true, true, false, false, false, false] rfl rfl (by kernel_rfl) (fun _ _ _ h => h) (Or.inl ⟨by rfl, ?_⟩) ?_ ?_
        rotate_left
        · intro w'
          go_simp
          with_reducible rfl
        rotate_left
        · simp only [Act.put, List.setIfInBounds_toArray, List.set_cons_zero, List.set_cons_succ, i64_w, i32_w]
          rfl
        refine take_ (i := 6) (N := some 64) (v := ?_) (a' := ?_) #[true, true, true, true, true, true, true, false, false, false] rfl rfl (by kernel_rfl) (fun _ _ _ h => h) (Or.inl ⟨by rfl, ?_⟩) hHeld ?_ ?_
        rotate_left
        · rintro w' s0
          obtain ⟨q0, q1, q2⟩ := HQ.out w' (below_step HBW3.out s0)
          go_simp
          with_reducible rfl
        rotate_left
        · simp only [Act.put, List.setIfInBounds_toArray, List.set_cons_zero, List.set_cons_succ, i64_w, i32_w]
          rfl
        refine one_ (i := 7) (N := some 65) #[true, true, true, true, true, true, true, true, false, false] rfl rfl (by kernel_rfl) (by decide) (fun K hK => ?_)
        obtain ⟨v4, W4, hrun4, har4, hbe4⟩ := arcs_copy (W := W3.drew) (c := cc) (Kd.C_below HR.out (below_step HBW3.out hHeld)) HAL.out
        obtain ⟨A4, c4, ev4⟩ := Kd.R_slice har4
        subst ev4
        have HRUN := Aside0.mk hrun4
        refine value_ (by rfl) rfl (w1 := W4) (v := (.slice A4 arcs.length c4)) (append_run32 (s := .tmp 59) (x := .tmp 64) rfl rfl (by rfl) (by rfl) HRUN.out) ?_
        have h34 := below_step hHeld hbe4
        refine hK.out _ _ h34 (fun hHeld2 => ?_)
        clear hK K hHeld hHeld2 hbe4
        refine norm_ (a' := ?_) ?_ ?_
        rotate_left
        · show Act.put _ (some 65) _ = _
          simp only [Act.put, List.setIfInBounds_toArray, List.set_cons_zero, List.set_cons_succ, i64_w, i32_w]
          rfl
        refine pure_ (i := 8) (N := some 66) (v := ?_) (a' := ?_) #[true, true, true, true, true, true, true, true, true, false] rfl rfl (by kernel_rfl) (fun _ _ _ h => h) (Or.inl ⟨by rfl, ?_⟩) ?_ ?_
        rotate_left
        · intro w'
          go_simp
          with_reducible rfl
        rotate_left
        · simp only [Act.put, List.setIfInBounds_toArray, List.set_cons_zero, List.set_cons_succ, i64_w, i32_w]
          rfl
        refine last_ (i := 9) (N := none) #[true, true, true, true, true, true, true, true, true, true] rfl rfl (by kernel_rfl) (by decide) (fun K hK => ?_)
        have k2 := blk_at (blk_below HCB.out h34) (k := 2) rfl
        have k3 := blk_frozen (blk_below HCB.out h34) 2
        refine skip_ (by rfl) rfl (w1 := W4.setCell ⟨cb, 2, none⟩ (.slice A4 arcs.length c4)) (by go_simp) ?_
        refine hK.out _ _ ?_
        clear hK K k2 k3
        refine done_ (by kernel_rfl) ?_
        have H14 := Aside0.mk (below_step HBA.out h34)
        have HB6 := Aside0.mk (below_set (j := 2) (v := (.slice A4 arcs.length c4)) (below_step HB3.out h34) (Nat.le_trans HB1s.out HCG.out))
        have HF6 := Aside0.mk (R_new HF3.out H14.out HCG.out 2 (.slice A4 arcs.length c4))
        have HM6 := Aside0.mk (R_new HM3.out H14.out HCG.out 2 (.slice A4 arcs.length c4))
        have HCB4 := blk_below HCB.out h34
        have HAB := Aside0.mk (fun k (hk : (Value.slice A4 arcs.length c4).ownBlock = some k) => Nat.le_trans HBA.out.size (Nat.le_trans (Nat.le_refl W3.heap.size) (Kd.R_base har4 k hk)))
        have HA6 := Aside0.mk (R_cell (Kd.R_lower har4 (Nat.le_trans HB3.out.size (Nat.le_refl W3.heap.size))) HCB4 (by decide) 2 (.slice A4 arcs.length c4))
        have HCB6 := Aside0.mk (heap_set W4 cb 2 (.slice A4 arcs.length c4) _ 34 HCB4)
        generalize W4.setCell ⟨cb, 2, none⟩ (.slice A4 arcs.length c4) = W6 at HB6 HF6 HM6 HA6 HCB6 ⊢
        clear h34 har4 HCB4 HRUN hrun4 HCB HBA HBW3 HB3 HBW HF3 HM3 H14
        have HX6 := Aside0.mk (blk_below HX2.out HB6.out)
        have x1 := blk_at HX6.out (k := 1) rfl
        replace HCB6 := Aside0.mk (show W6.heap[cb]? = some (.cells #[.string s, .string d, (.slice A4 arcs.length c4)] 34 (0, 0)) from HCB6.out)
        by_cases ht : (i : Int) = xt
        · have t1 : ((i : Int) == xt) = true := by simp [ht]
          have HMN := Aside0.mk (show moreL l xt ⟨xa, xb, xs⟩ (i + 1) = moreL l xt ⟨xa, xb, xs⟩ i ++ [⟨s, d, arcs ++ [⟨xa, xb, xs⟩]⟩] by rw [HME.out, decide_eq_true ht]; rfl)
          clear ht HME
          have x2 := blk_at HX6.out (k := 2) rfl
          have x3 := blk_at HX6.out (k := 3) rfl
          have x4 := blk_at HX6.out (k := 4) rfl
          have y2 := blk_at HCB6.out (k := 2) rfl
          go_wp2_with (first | (at_builtin; go_loud (refine Kd.R_append kAc (w0 := w2) (W := W6) w2.heap.size rfl (.tmp 72) (.tmp 75) 32 24 (.agg #[.int .i64 0, .int .i64 0, .bool false]) 24 rfl Try.underlying32 info24 rfl (by decide) (by omega) (.slice A4 arcs.length c4) arcs ⟨xa, xb, xs⟩ [.int .i64 xa, .int .i64 xb, .bool xs] (fun _ => True) (fun k => True ∧ some k ≠ (Value.slice A4 arcs.length c4).ownBlock) rfl rfl ac_M (fun _ hk => hk) (fun _ _ => trivial) HA6.out HB6.out HB6.out.size (by have := HAL.out; omega) ?_; intro v5 w7 hr1 hb1 hg1 hat1; have HCB7 := Aside0.mk (blk_grown HCB6.out hg1 (Kd.R_ne HA6.out HCB6.out (by decide))); have HF7 := Aside0.mk (over_new HF6.out hg1 HAB.out); have HM7 := Aside0.mk (over_new HM6.out hg1 HAB.out); obtain ⟨A5, c5, ev5⟩ := Kd.R_slice hr1; replace ev5 : v5 = .slice A5 (arcs.length + 1) c5 := (by rw [ev5, List.length_append]; rfl); subst ev5; clear y2; have y0 := blk_at HCB7.out (k := 0) rfl; have y1 := blk_at HCB7.out (k := 1) rfl; have z2 := blk_at HCB7.out (k := 2) rfl; have f2 := blk_frozen HCB7.out 2; have HF8 := Aside0.mk (Kd.R_mono (set_new HF7.out HCG.out 2 (.slice A5 (arcs.length + 1) c5)) (fun k hk => hk.1)); have HM8 := Aside0.mk (Kd.R_mono (set_new HM7.out HCG.out 2 (.slice A5 (arcs.length + 1) c5)) (fun k hk => hk.1)); have HA8 := Aside0.mk (R_cell hr1 HCB7.out (by decide) 2 (.slice A5 (arcs.length + 1) c5)); have HB8 := Aside0.mk (below_set (j := 2) (v := (.slice A5 (arcs.length + 1) c5)) hb1 (Nat.le_trans HB1s.out HCG.out)); have HPM := Aside0.mk (call_M (c := ⟨s, d, arcs ++ [⟨xa, xb, xs⟩]⟩) (Kd.R_apart' (Kd.R_mono (Kd.R_apart' HA8.out (Kd.R_typed HF8.out) (by decide)) (fun _ hk => hk)) (Kd.R_typed HM8.out) (by decide))); clear hr1 hb1 hg1 hat1 HF7 HM7)) | (at_builtin; go_loud (refine Kd.R_append kCl (w0 := w2) (W := w7.setCell ⟨cb, 2, none⟩ (.slice A5 (arcs.length + 1) c5)) w2.heap.size rfl (.tmp 78) (.tmp 80) 22 34 (.agg #[.string .empty, .string .empty, .slice none 0 0]) 56 rfl Try.underlying22 info34 rfl (Nat.succ_pos 2) (by omega) u8 (moreL l xt ⟨xa, xb, xs⟩ i) ⟨s, d, arcs ++ [⟨xa, xb, xs⟩]⟩ [.string s, .string d, (.slice A5 (arcs.length + 1) c5)] (fun k => True ∧ some k ≠ u7.ownBlock) (fun k => (True ∧ some k ≠ u7.ownBlock) ∧ some k ≠ u8.ownBlock) rfl (by first | rfl | (simp [World.setCell]; rfl)) HPM.out (fun _ hk => hk) (fun k hk => ⟨trivial, own_old HF8.out k hk⟩) HM8.out HB8.out HB8.out.size (by have := HFL.out.2; omega) ?_; intro v9 w9 hr1 hb1 hg1 hat1; have HM9 := Aside0.mk hr1; have HF9 := Aside0.mk (Kd.R_after HF8.out hg1 hat1); have HB9 := Aside0.mk hb1; clear hr1 hb1 hg1 hat1)))
          go_roundg (l.length - i - 1)
          case measure => have := HK.out; omega
          case rel => exact ⟨i + 1, by go_num, ⟨by have := HK.out; have := HLT.out; omega⟩, ⟨Kp.mk HB9.out HF9.out (by rw [HMN.out]; exact HM9.out)⟩⟩
        · have HF6' := Aside0.mk (Kd.R_mono HF6.out (fun k hk => hk.1))
          have HM6' := Aside0.mk (Kd.R_mono HM6.out (fun k hk => hk.1))
          clear HF6 HM6
          have HF6 := HF6'
          have HM6 := HM6'
          clear HF6' HM6' HAB
          have t1 : ((i : Int) == xt) = false := by simp [ht]
          have HMN := Aside0.mk (show moreL l xt ⟨xa, xb, xs⟩ (i + 1) = moreL l xt ⟨xa, xb, xs⟩ i ++ [⟨s, d, arcs⟩] by rw [HME.out, decide_eq_false ht]; rfl)
          clear ht HME
          have HPM := Aside0.mk (call_M (c := ⟨s, d, arcs⟩) (Kd.R_apart' (Kd.R_mono (Kd.R_apart' HA6.out (Kd.R_typed HF6.out) (by decide)) (fun _ hk => hk)) (Kd.R_typed HM6.out) (by decide)))
          have y0 := blk_at HCB6.out (k := 0) rfl
          have y1 := blk_at HCB6.out (k := 1) rfl
          have y2 := blk_at HCB6.out (k := 2) rfl
          go_wp2_with (at_builtin; go_loud (refine Kd.R_append kCl (w0 := w2) (W := W6) w2.heap.size rfl (.tmp 78) (.tmp 80) 22 34 (.agg #[.string .empty, .string .empty, .slice none 0 0]) 56 rfl Try.underlying22 info34 rfl (Nat.succ_pos 2) (by omega) u8 (moreL l xt ⟨xa, xb, xs⟩ i) ⟨s, d, arcs⟩ [.string s, .string d, (.slice A4 arcs.length c4)] (fun k => True ∧ some k ≠ u7.ownBlock) (fun k => (True ∧ some k ≠ u7.ownBlock) ∧ some k ≠ u8.ownBlock) rfl rfl HPM.out (fun _ hk => hk) (fun k hk => ⟨trivial, own_old HF6.out k hk⟩) HM6.out HB6.out HB6.out.size (by have := HFL.out.2; omega) ?_; intro v9 w9 hr1 hb1 hg1 hat1; have HM9 := Aside0.mk hr1; have HF9 := Aside0.mk (Kd.R_after HF6.out hg1 hat1); have HB9 := Aside0.mk hb1; clear hr1 hb1 hg1 hat1))
          go_roundg (l.length - i - 1)
          case measure => have := HK.out; omega
          case rel => exact ⟨i + 1, by go_num, ⟨by have := HK.out; have := HLT.out; omega⟩, ⟨Kp.mk HB9.out HF9.out (by rw [HMN.out]; exact HM9.out)⟩⟩
      · have o1 : ((i : Int) != xo) = true := by simpa using ho
        have HFN := Aside0.mk (HFE.out.trans (if_neg ho))
        clear ho HFE
        go_wp2_with (at_builtin; go_loud (refine Kd.R_append (kOld w) (w0 := w2) (W := wr) w2.heap.size rfl (.tmp 40) (.tmp 45) 22 34 (.agg #[.string .empty, .string .empty, .slice none 0 0]) 56 rfl Try.underlying22 info34 rfl (Nat.succ_pos 2) (by omega) u7 (fewL l xo i) ⟨s, d, arcs⟩ [.string s, .string d, .slice A1 arcs.length cc] (fun k => True ∧ some k ≠ u8.ownBlock) (fun k => (True ∧ some k ≠ u8.ownBlock) ∧ some k ≠ u7.ownBlock) rfl rfl ⟨A1, cc, rfl, HCP.out, HR.out⟩ (fun _ hk => hk) (fun k hk => ⟨trivial, own_old HKP.out.m k hk⟩) HKP.out.f HKP.out.below HKP.out.below.size (by have := HFL.out.1; omega) ?_; intro v1 w3 hr1 hb1 hg1 hat1; have HF3 := Aside0.mk hr1; have HM3 := Aside0.mk (Kd.R_after HKP.out.m hg1 hat1); have HB3 := Aside0.mk hb1; clear hr1 hb1 hg1 hat1))
        have HF3' := Aside0.mk (show (kOld w).R 34 w3 w2.heap.size (fun k => True ∧ some k ≠ u8.ownBlock) v1 (fewL l xo (i + 1)) by rw [HFN.out]; exact HF3.out)
        clear HF3
        have HF3 := HF3'
        have HB1s := Aside0.mk HB3.out.size
        clear HF3' HKP
        clear q0 q1 q2 x0 o1
        have HBW := Aside0.mk (below_step HB2.out HB3.out)
        generalize w3 = W1 at HF3 HM3 HB3 HB1s HBW ⊢
        refine start_ (n := 13) (S := fun w' => Below W1.heap.size W1 w') (ds := [12]) #[false, false, false, false, false, false, false, false, false, false, false, false, false] (by kernel_rfl) rfl rfl (below_drew1 (Below.refl _ _)) (fun hHeld => ?_)
        refine pure_ (i := 0) (N := some 47) (v := ?_) (a' := ?_) #[true, false, false, false, false, false, false, false, false, false, false, false, false] rfl rfl (by kernel_rfl) (fun _ _ _ h => h) (Or.inl ⟨by rfl, ?_⟩) ?_ ?_
        rotate_left
        · intro w'
          go_simp
          with_reducible rfl
        rotate_left
        · simp only [Act.put, List.setIfInBounds_toArray, List.set_cons_zero, List.set_cons_succ, i64_w, i32_w]
          rfl
        refine pure_ (i := 1) (N := some 48) (v := ?_) (a' := ?_) #[true, true, false, false, false, false, false, false, false, false, false, false, false] rfl rfl (by kernel_rfl) (fun _ _ _ h => h) (Or.inl ⟨by rfl, ?_⟩) ?_ ?_
        rotate_left
        · intro w'
          go_simp
          with_reducible rfl
        rotate_left
        · simp only [Act.put, List.setIfInBounds_toArray, List.set_cons_zero, List.set_cons_succ, i64_w, i32_w]
          rfl
        refine pure_ (i := 2) (N := some 49) (v := ?_) (a' := ?_) #[true, true, true, false, false, false, false, false, false, false, false, false, false] rfl rfl (by kernel_rfl) (fun _ _ _ h => h) (Or.inl ⟨by rfl, ?_⟩) ?_ ?_
        rotate_left
        · intro w'
          go_simp
          with_reducible rfl
        rotate_left
        · simp only [Act.put, List.setIfInBounds_toArray, List.set_cons_zero, List.set_cons_succ, i64_w, i32_w]
          rfl
        refine pure_ (i := 3) (N := some 50) (v := ?_) (a' := ?_) #[true, true, true, true, false, false, false, false, false, false, false, false, false] rfl rfl (by kernel_rfl) (fun _ _ _ h => h) (Or.inl ⟨by rfl, ?_⟩) ?_ ?_
        rotate_left
        · intro w'
          go_simp
          with_reducible rfl
        rotate_left
        · simp only [Act.put, List.setIfInBounds_toArray, List.set_cons_zero, List.set_cons_succ, i64_w, i32_w]
          rfl
        refine take_ (i := 4) (N := some 51) (v := ?_) (a' := ?_) #[true, true, true, true, true, false, false, false, false, false, false, false, false] rfl rfl (by kernel_rfl) (fun _ _ _ h => h) (Or.inl ⟨by rfl, ?_⟩) hHeld ?_ ?_
        rotate_left
        · rintro w' s0
          obtain ⟨q0, q1, q2⟩ := HQ.out w' (below_step HBW.out s0)
          go_simp
          with_reducible rfl
        rotate_left
        · simp only [Act.put, List.setIfInBounds_toArray, List.set_cons_zero, List.set_cons_succ, i64_w, i32_w]
          rfl
        refine pure_ (i := 5) (N := some 52) (v := ?_) (a' := ?_) #[true, true, true, true, true, true, false, false, false, false, false, false, false] rfl rfl (by kernel_rfl) (fun _ _ _ h => h) (Or.inl ⟨by rfl, ?_⟩) ?_ ?_
        rotate_left
        · intro w'
          go_simp
          with_reducible rfl
        rotate_left
        · simp only [Act.put, List.setIfInBounds_toArray, List.set_cons_zero, List.set_cons_succ, i64_w, i32_w]
          rfl
        refine pure_ (i := 6) (N := some 53) (v := ?_) (a' := ?_) #[true, true, true, true, true, true, true, false, false, false, false, false, false] rfl rfl (by kernel_rfl) (fun _ _ _ h => h) (Or.inl ⟨by rfl, ?_⟩) ?_ ?_
        rotate_left
        · intro w'
          go_simp
          with_reducible rfl
        rotate_left
        · simp only [Act.put, List.setIfInBounds_toArray, List.set_cons_zero, List.set_cons_succ, i64_w, i32_w]
          rfl
        refine pure_ (i := 7) (N := some 54) (v := ?_) (a' := ?_) #[true, true, true, true, true, true, true, true, false, false, false, false, false] rfl rfl (by kernel_rfl) (fun _ _ _ h => h) (Or.inl ⟨by rfl, ?_⟩) ?_ ?_
        rotate_left
        · intro w'
          go_simp
          with_reducible rfl
        rotate_left
        · simp only [Act.put, List.setIfInBounds_toArray, List.set_cons_zero, List.set_cons_succ, i64_w, i32_w]
          rfl
        refine pure_ (i := 8) (N := some 55) (v := ?_) (a' := ?_) #[true, true, true, true, true, true, true, true, true, false, false, false, false] rfl rfl (by kernel_rfl) (fun _ _ _ h => h) (Or.inl ⟨by rfl, ?_⟩) ?_ ?_
        rotate_left
        · intro w'
          go_simp
          with_reducible rfl
        rotate_left
        · simp only [Act.put, List.setIfInBounds_toArray, List.set_cons_zero, List.set_cons_succ, i64_w, i32_w]
          rfl
        refine take_ (i := 9) (N := some 56) (v := ?_) (a' := ?_) #[true, true, true, true, true, true, true, true, true, true, false, false, false] rfl rfl (by kernel_rfl) (fun _ _ _ h => h) (Or.inl ⟨by rfl, ?_⟩) hHeld ?_ ?_
        rotate_left
        · rintro w' s0
          obtain ⟨q0, q1, q2⟩ := HQ.out w' (below_step HBW.out s0)
          go_simp
          with_reducible rfl
        rotate_left
        · simp only [Act.put, List.setIfInBounds_toArray, List.set_cons_zero, List.set_cons_succ, i64_w, i32_w]
          rfl
        refine pure_ (i := 10) (N := some 57) (v := ?_) (a' := ?_) #[true, true, true, true, true, true, true, true, true, true, true, false, false] rfl rfl (by kernel_rfl) (fun _ _ _ h => h) (Or.inl ⟨by rfl, ?_⟩) ?_ ?_
        rotate_left
        · intro w'
          go_simp
          with_reducible rfl
        rotate_left
        · simp only [Act.put, List.setIfInBounds_toArray, List.set_cons_zero, List.set_cons_succ, i64_w, i32_w]
          rfl
        refine one_ (i := 11) (N := some 10) #[true, true, true, true, true, true, true, true, true, true, true, true, false] rfl rfl (by kernel_rfl) (by decide) (fun K hK => ?_)
        refine value_ (by rfl) rfl (w1 := World.alloc W1.drew (.cells #[.string ⟨#[]⟩, .string ⟨#[]⟩, .slice none 0 0] 34)) (v := .pointer (some ⟨W1.drew.heap.size, 0, none⟩)) (by go_simp) ?_
        refine hK.out _ _ (below_step hHeld (below_alloc (Below.refl _ _) _)) (fun hHeld2 => ?_)
        clear hK K
        refine norm_ (a' := ?_) ?_ ?_
        rotate_left
        · show Act.put _ (some 10) _ = _
          simp only [Act.put, List.setIfInBounds_toArray, List.set_cons_zero, List.set_cons_succ, i64_w, i32_w]
          rfl
        refine last_ (i := 12) (N := none) #[true, true, true, true, true, true, true, true, true, true, true, true, true] rfl rfl (by kernel_rfl) (by decide) (fun K hK => ?_)
        refine skip_ (by rfl) rfl (store_run (ty := 34) (x := .tmp 10) (v := .tmp 57) rfl rfl W1.drew.heap.size 34 #[.string ⟨#[]⟩, .string ⟨#[]⟩, .slice none 0 0] #[.string s, .string d, .slice none 0 0] (by rfl) (by rfl) (blk_new _ _) (by kernel_rfl) rfl (by simp [Value.oneCell'])) ?_
        refine hK.out _ _ ?_
        clear hK K hHeld hHeld2
        rw [World.setRow_alloc_new]
        refine done_ (by kernel_rfl) ?_
        have HCB := Aside0.mk (blk_new W1.drew (.cells #[.string s, .string d, .slice none 0 0] 34))
        have HBA := Aside0.mk (below_step (below_drew1 (Below.refl W1.heap.size W1)) (below_alloc (Below.refl W1.drew.heap.size W1.drew) (.cells #[.string s, .string d, .slice none 0 0] 34)))
        generalize W1.drew.alloc (.cells #[.string s, .string d, .slice none 0 0] 34) = W3 at HCB HBA ⊢
        have HCG := Aside0.mk (show W1.heap.size ≤ W1.drew.heap.size from Nat.le_refl _)
        generalize W1.drew.heap.size = cb at HCB HCG ⊢
        have HBW3 := Aside0.mk (below_step HBW.out HBA.out)
        have HB3' := Aside0.mk (below_step HB3.out HBA.out)
        clear HB3
        have HB3 := HB3'
        clear HB3'
        go_wp2
        refine start_ (n := 10) (S := fun w' => Below W3.heap.size W3 w') (ds := [9]) #[false, false, false, false, false, false, false, false, false, false] (by kernel_rfl) rfl rfl (below_drew1 (Below.refl _ _)) (fun hHeld => ?_)
        refine pure_ (i := 0) (N := some 58) (v := ?_) (a' := ?_) #[true, false, false, false, false, false, false, false, false, false] rfl rfl (by kernel_rfl) (fun _ _ _ h => h) (Or.inl ⟨by rfl, ?_⟩) ?_ ?_
        rotate_left
        · intro w'
          go_simp
          with_reducible rfl
        rotate_left
        · simp only [Act.put, List.setIfInBounds_toArray, List.set_cons_zero, List.set_cons_succ, i64_w, i32_w]
          rfl
        refine take_ (i := 1) (N := some 59) (v := ?_) (a' := ?_) #[true, true, false, false, false, false, false, false, false, false] rfl rfl (by kernel_rfl) (fun _ _ _ h => h) (Or.inl ⟨by rfl, ?_⟩) hHeld ?_ ?_
        rotate_left
        · rintro w' s0
          have k0 := blk_at (blk_below HCB.out s0) (k := 2) rfl
          go_simp
          with_reducible rfl
        rotate_left
        · simp only [Act.put, List.setIfInBounds_toArray, List.set_cons_zero, List.set_cons_succ, i64_w, i32_w]
          rfl
        refine pure_ (i := 2) (N := some 60) (v := ?_) (a' := ?_) #[true, true, true, false, false, false, false, false, false, false] rfl rfl (by kernel_rfl) (fun _ _ _ h => h) (Or.inl ⟨by rfl, ?_⟩) ?_ ?_
        rotate_left
        · intro w'
          go_simp
          with_reducible rfl
        rotate_left
        · simp only [Act.put, List.setIfInBounds_toArray, List.set_cons_zero, List.set_cons_succ, i64_w, i32_w]
          rfl
        refine pure_ (i := 3) (N := some 61) (v := ?_) (a' := ?_) #[true, true, true, true, false, false, false, false, false, false] rfl rfl (by kernel_rfl) (fun _ _ _ h => h) (Or.inl ⟨by rfl, ?_⟩) ?_ ?_
        rotate_left
        · intro w'
          go_simp
          with_reducible rfl
        rotate_left
        · simp only [Act.put, List.setIfInBounds_toArray, List.set_cons_zero, List.set_cons_succ, i64_w, i32_w]
          rfl
        refine pure_ (i := 4) (N := some 62) (v := ?_) (a' := ?_) #[true, true, true, true, true, false, false, false, false, false] rfl rfl (by kernel_rfl) (fun _ _ _ h => h) (Or.inl ⟨by rfl, ?_⟩) ?_ ?_
        rotate_left
        · intro w'
          go_simp
          with_reducible rfl
        rotate_left
        · simp only [Act.put, List.setIfInBounds_toArray, List.set_cons_zero, List.set_cons_succ, i64_w, i32_w]
          rfl
        refine pure_ (i := 5) (N := some 63) (v := ?_) (a' := ?_) #[true, true, true, true, true, true, false, false, false, false] rfl rfl (by kernel_rfl) (fun _ _ _ h => h) (Or.inl ⟨by rfl, ?_⟩) ?_ ?_
        rotate_left
        · intro w'
          go_simp
          with_reducible rfl
        rotate_left
        · simp only [Act.put, List.setIfInBounds_toArray, List.set_cons_zero, List.set_cons_succ, i64_w, i32_w]
          rfl
        refine take_ (i := 6) (N := some 64) (v := ?_) (a' := ?_) #[true, true, true, true, true, true, true, false, false, false] rfl rfl (by kernel_rfl) (fun _ _ _ h => h) (Or.inl ⟨by rfl, ?_⟩) hHeld ?_ ?_
        rotate_left
        · rintro w' s0
          obtain ⟨q0, q1, q2⟩ := HQ.out w' (below_step HBW3.out s0)
          go_simp
          with_reducible rfl
        rotate_left
        · simp only [Act.put, List.setIfInBounds_toArray, List.set_cons_zero, List.set_cons_succ, i64_w, i32_w]
          rfl
        refine one_ (i := 7) (N := some 65) #[true, true, true, true, true, true, true, true, false, false] rfl rfl (by kernel_rfl) (by decide) (fun K hK => ?_)
        obtain ⟨v4, W4, hrun4, har4, hbe4⟩ := arcs_copy (W := W3.drew) (c := cc) (Kd.C_below HR.out (below_step HBW3.out hHeld)) HAL.out
        obtain ⟨A4, c4, ev4⟩ := Kd.R_slice har4
        subst ev4
        have HRUN := Aside0.mk hrun4
        refine value_ (by rfl) rfl (w1 := W4) (v := (.slice A4 arcs.length c4)) (append_run32 (s := .tmp 59) (x := .tmp 64) rfl rfl (by rfl) (by rfl) HRUN.out) ?_
        have h34 := below_step hHeld hbe4
        refine hK.out _ _ h34 (fun hHeld2 => ?_)
        clear hK K hHeld hHeld2 hbe4
        refine norm_ (a' := ?_) ?_ ?_
        rotate_left
        · show Act.put _ (some 65) _ = _
          simp only [Act.put, List.setIfInBounds_toArray, List.set_cons_zero, List.set_cons_succ, i64_w, i32_w]
          rfl
        refine pure_ (i := 8) (N := some 66) (v := ?_) (a' := ?_) #[true, true, true, true, true, true, true, true, true, false] rfl rfl (by kernel_rfl) (fun _ _ _ h => h) (Or.inl ⟨by rfl, ?_⟩) ?_ ?_
        rotate_left
        · intro w'
          go_simp
          with_reducible rfl
        rotate_left
        · simp only [Act.put, List.setIfInBounds_toArray, List.set_cons_zero, List.set_cons_succ, i64_w, i32_w]
          rfl
        refine last_ (i := 9) (N := none) #[true, true, true, true, true, true, true, true, true, true] rfl rfl (by kernel_rfl) (by decide) (fun K hK => ?_)
        have k2 := blk_at (blk_below HCB.out h34) (k := 2) rfl
        have k3 := blk_frozen (blk_below HCB.out h34) 2
        refine skip_ (by rfl) rfl (w1 := W4.setCell ⟨cb, 2, none⟩ (.slice A4 arcs.length c4)) (by go_simp) ?_
        refine hK.out _ _ ?_
        clear hK K k2 k3
        refine done_ (by kernel_rfl) ?_
        have H14 := Aside0.mk (below_step HBA.out h34)
        have HB6 := Aside0.mk (below_set (j := 2) (v := (.slice A4 arcs.length c4)) (below_step HB3.out h34) (Nat.le_trans HB1s.out HCG.out))
        have HF6 := Aside0.mk (R_new HF3.out H14.out HCG.out 2 (.slice A4 arcs.length c4))
        have HM6 := Aside0.mk (R_new HM3.out H14.out HCG.out 2 (.slice A4 arcs.length c4))
        have HCB4 := blk_below HCB.out h34
        have HAB := Aside0.mk (fun k (hk : (Value.slice A4 arcs.length c4).ownBlock = some k) => Nat.le_trans HBA.out.size (Nat.le_trans (Nat.le_refl W3.heap.size) (Kd.R_base har4 k hk)))
        have HA6 := Aside0.mk (R_cell (Kd.R_lower har4 (Nat.le_trans HB3.out.size (Nat.le_refl W3.heap.size))) HCB4 (by decide) 2 (.slice A4 arcs.length c4))
        have HCB6 := Aside0.mk (heap_set W4 cb 2 (.slice A4 arcs.length c4) _ 34 HCB4)
        generalize W4.setCell ⟨cb, 2, none⟩ (.slice A4 arcs.length c4) = W6 at HB6 HF6 HM6 HA6 HCB6 ⊢
        clear h34 har4 HCB4 HRUN hrun4 HCB HBA HBW3 HB3 HBW HF3 HM3 H14
        have HX6 := Aside0.mk (blk_below HX2.out HB6.out)
        have x1 := blk_at HX6.out (k := 1) rfl
        replace HCB6 := Aside0.mk (show W6.heap[cb]? = some (.cells #[.string s, .string d, (.slice A4 arcs.length c4)] 34 (0, 0)) from HCB6.out)
        by_cases ht : (i : Int) = xt
        · have t1 : ((i : Int) == xt) = true := by simp [ht]
          have HMN := Aside0.mk (show moreL l xt ⟨xa, xb, xs⟩ (i + 1) = moreL l xt ⟨xa, xb, xs⟩ i ++ [⟨s, d, arcs ++ [⟨xa, xb, xs⟩]⟩] by rw [HME.out, decide_eq_true ht]; rfl)
          clear ht HME
          have x2 := blk_at HX6.out (k := 2) rfl
          have x3 := blk_at HX6.out (k := 3) rfl
          have x4 := blk_at HX6.out (k := 4) rfl
          have y2 := blk_at HCB6.out (k := 2) rfl
          go_wp2_with (first | (at_builtin; go_loud (refine Kd.R_append kAc (w0 := w2) (W := W6) w2.heap.size rfl (.tmp 72) (.tmp 75) 32 24 (.agg #[.int .i64 0, .int .i64 0, .bool false]) 24 rfl Try.underlying32 info24 rfl (by decide) (by omega) (.slice A4 arcs.length c4) arcs ⟨xa, xb, xs⟩ [.int .i64 xa, .int .i64 xb, .bool xs] (fun _ => True) (fun k => True ∧ some k ≠ (Value.slice A4 arcs.length c4).ownBlock) rfl rfl ac_M (fun _ hk => hk) (fun _ _ => trivial) HA6.out HB6.out HB6.out.size (by have := HAL.out; omega) ?_; intro v5 w7 hr1 hb1 hg1 hat1; have HCB7 := Aside0.mk (blk_grown HCB6.out hg1 (Kd.R_ne HA6.out HCB6.out (by decide))); have HF7 := Aside0.mk (over_new HF6.out hg1 HAB.out); have HM7 := Aside0.mk (over_new HM6.out hg1 HAB.out); obtain ⟨A5, c5, ev5⟩ := Kd.R_slice hr1; replace ev5 : v5 = .slice A5 (arcs.length + 1) c5 := (by rw [ev5, List.length_append]; rfl); subst ev5; clear y2; have y0 := blk_at HCB7.out (k := 0) rfl; have y1 := blk_at HCB7.out (k := 1) rfl; have z2 := blk_at HCB7.out (k := 2) rfl; have f2 := blk_frozen HCB7.out 2; have HF8 := Aside0.mk (Kd.R_mono (set_new HF7.out HCG.out 2 (.slice A5 (arcs.length + 1) c5)) (fun k hk => hk.1)); have HM8 := Aside0.mk (Kd.R_mono (set_new HM7.out HCG.out 2 (.slice A5 (arcs.length + 1) c5)) (fun k hk => hk.1)); have HA8 := Aside0.mk (R_cell hr1 HCB7.out (by decide) 2 (.slice A5 (arcs.length + 1) c5)); have HB8 := Aside0.mk (below_set (j := 2) (v := (.slice A5 (arcs.length + 1) c5)) hb1 (Nat.le_trans HB1s.out HCG.out)); have HPM := Aside0.mk (call_M (c := ⟨s, d, arcs ++ [⟨xa, xb, xs⟩]⟩) (Kd.R_apart' (Kd.R_mono (Kd.R_apart' HA8.out (Kd.R_typed HF8.out) (by decide)) (fun _ hk => hk)) (Kd.R_typed HM8.out) (by decide))); clear hr1 hb1 hg1 hat1 HF7 HM7)) | (at_builtin; go_loud (refine Kd.R_append kCl (w0 := w2) (W := w7.setCell ⟨cb, 2, none⟩ (.slice A5 (arcs.length + 1) c5)) w2.heap.size rfl (.tmp 78) (.tmp 80) 22 34 (.agg #[.string .empty, .string .empty, .slice none 0 0]) 56 rfl Try.underlying22 info34 rfl (Nat.succ_pos 2) (by omega) u8 (moreL l xt ⟨xa, xb, xs⟩ i) ⟨s, d, arcs ++ [⟨xa, xb, xs⟩]⟩ [.string s, .string d, (.slice A5 (arcs.length + 1) c5)] (fun k => True ∧ some k ≠ v1.ownBlock) (fun k => (True ∧ some k ≠ v1.ownBlock) ∧ some k ≠ u8.ownBlock) rfl (by first | rfl | (simp [World.setCell]; rfl)) HPM.out (fun _ hk => hk) (fun k hk => ⟨trivial, own_old HF8.out k hk⟩) HM8.out HB8.out HB8.out.size (by have := HFL.out.2; omega) ?_; intro v9 w9 hr1 hb1 hg1 hat1; have HM9 := Aside0.mk hr1; have HF9 := Aside0.mk (Kd.R_after HF8.out hg1 hat1); have HB9 := Aside0.mk hb1; clear hr1 hb1 hg1 hat1)))
          go_roundg (l.length - i - 1)
          case measure => have := HK.out; omega
          case rel => exact ⟨i + 1, by go_num, ⟨by have := HK.out; have := HLT.out; omega⟩, ⟨Kp.mk HB9.out HF9.out (by rw [HMN.out]; exact HM9.out)⟩⟩
        · have HF6' := Aside0.mk (Kd.R_mono HF6.out (fun k hk => hk.1))
          have HM6' := Aside0.mk (Kd.R_mono HM6.out (fun k hk => hk.1))
          clear HF6 HM6
          have HF6 := HF6'
          have HM6 := HM6'
          clear HF6' HM6' HAB
          have t1 : ((i : Int) == xt) = false := by simp [ht]
          have HMN := Aside0.mk (show moreL l xt ⟨xa, xb, xs⟩ (i + 1) = moreL l xt ⟨xa, xb, xs⟩ i ++ [⟨s, d, arcs⟩] by rw [HME.out, decide_eq_false ht]; rfl)
          clear ht HME
          have HPM := Aside0.mk (call_M (c := ⟨s, d, arcs⟩) (Kd.R_apart' (Kd.R_mono (Kd.R_apart' HA6.out (Kd.R_typed HF6.out) (by decide)) (fun _ hk => hk)) (Kd.R_typed HM6.out) (by decide)))
          have y0 := blk_at HCB6.out (k := 0) rfl
          have y1 := blk_at HCB6.out (k := 1) rfl
          have y2 := blk_at HCB6.out (k := 2) rfl
          go_wp2_with (at_builtin; go_loud (refine Kd.R_append kCl (w0 := w2) (W := W6) w2.heap.size rfl (.tmp 78) (.tmp 80) 22 34 (.agg #[.string .empty, .string .empty, .slice none 0 0]) 56 rfl Try.underlying22 info34 rfl (Nat.succ_pos 2) (by omega) u8 (moreL l xt ⟨xa, xb, xs⟩ i) ⟨s, d, arcs⟩ [.string s, .string d, (.slice A4 arcs.length c4)] (fun k => True ∧ some k ≠ v1.ownBlock) (fun k => (True ∧ some k ≠ v1.ownBlock) ∧ some k ≠ u8.ownBlock) rfl rfl HPM.out (fun _ hk => hk) (fun k hk => ⟨trivial, own_old HF6.out k hk⟩) HM6.out HB6.out HB6.out.size (by have := HFL.out.2; omega) ?_; intro v9 w9 hr1 hb1 hg1 hat1; have HM9 := Aside0.mk hr1; have HF9 := Aside0.mk (Kd.R_after HF6.out hg1 hat1); have HB9 := Aside0.mk hb1; clear hr1 hb1 hg1 hat1))
          go_roundg (l.length - i - 1)
          case measure => have := HK.out; omega
          case rel => exact ⟨i + 1, by go_num, ⟨by have := HK.out; have := HLT.out; omega⟩, ⟨Kp.mk HB9.out HF9.out (by rw [HMN.out]; exact HM9.out)⟩⟩
    · have hdx : decide ((i : Int) < (l.length : Int)) = false := decide_eq_false (by omega)
      have hie : i = l.length := by have := HK.out; omega
      subst hie
      obtain ⟨A7, c7, e7⟩ := Kd.R_slice HKP.out.f
      obtain ⟨A8, c8, e8⟩ := Kd.R_slice HKP.out.m
      subst e7
      subst e8
      have HBW := Aside0.mk (below_step HB2.out HKP.out.below)
      have HT7 := Aside0.mk (term_calls (cp := c7) (old_C (Kd.R_reads' HKP.out.f).2.2 HBW.out) (fun c hc => ⟨(HSM.out.2 c (fewL_mem l.length (Nat.le_refl _) c hc)).1, (HSM.out.2 c (fewL_mem l.length (Nat.le_refl _) c hc)).2.1, Nat.le_trans (HSM.out.2 c (fewL_mem l.length (Nat.le_refl _) c hc)).2.2 (by decide)⟩) (Nat.le_trans (fewL_len _ _ _) HLL.out))
      have HT8 := Aside0.mk (fun (W : World) (hb : Below wr.heap.size wr W) => term_calls (cp := c8) (Kd.C_below (Kd.R_reads' HKP.out.m).2.2 hb) (fun c hc => by
        obtain ⟨c0, h0, h1, h2, h3⟩ := moreL_mem l.length (Nat.le_refl _) c hc
        have h4 := HSM.out.2 c0 h0
        exact ⟨by rw [h1]; exact h4.1, by rw [h2]; exact h4.2.1, by have := h4.2.2; omega⟩) (by rw [moreL_len]; exact HLL.out))
      have HF1 := HFM.out.1
      have HF2 := HFM.out.2
      clear HFM HKP HK
      generalize termF (fewL l xo l.length) 4 2 = r7 at HF1 HT7
      generalize termF (moreL l xt ⟨xa, xb, xs⟩ l.length) 4 2 = r8 at HF2 HT8
      generalize (fewL l xo l.length).length = n7 at HT7 ⊢
      generalize (moreL l xt ⟨xa, xb, xs⟩ l.length).length = n8 at HT8 ⊢
      obtain ⟨b7, y7⟩ := r7
      obtain ⟨b8, y8⟩ := r8
      have HF3 : b8 = true ∨ (y8 != 0) = true := by
        by_cases h : y8 = 0
        · exact .inl (HF2 h)
        · exact .inr (by simpa using h)
      clear HF2
      rcases HF1 with h7 | h7
      · cases h7
        rcases HF3 with h8 | h8
        · subst h8
          go_wp2_with (first | (go_at_call 13; refine HT7.out.mono ?_; rintro e w5 ⟨rfl, hb5⟩; have HB5 := Aside0.mk hb5; clear hb5 HT7) | (go_at_call 13; refine (HT8.out w5 HB5.out).mono ?_; rintro e w6 ⟨rfl, hb6⟩; have HB6 := Aside0.mk (below_step HBW.out (below_step HB5.out hb6)); clear hb6) | (go_at_call 12; refine (awake_calls _).mono ?_; rintro e w7 ⟨rfl, hb7⟩; have HB7 := Aside0.mk (below_step HB6.out hb7); clear hb7))
          go_ret
          exact ⟨rfl, HB7.out⟩
        · cases b8 with
          | true =>
            go_wp2_with (first | (go_at_call 13; refine HT7.out.mono ?_; rintro e w5 ⟨rfl, hb5⟩; have HB5 := Aside0.mk hb5; clear hb5 HT7) | (go_at_call 13; refine (HT8.out w5 HB5.out).mono ?_; rintro e w6 ⟨rfl, hb6⟩; have HB6 := Aside0.mk (below_step HBW.out (below_step HB5.out hb6)); clear hb6) | (go_at_call 12; refine (awake_calls _).mono ?_; rintro e w7 ⟨rfl, hb7⟩; have HB7 := Aside0.mk (below_step HB6.out hb7); clear hb7))
            go_ret
            exact ⟨rfl, HB7.out⟩
          | false =>
            go_wp2_with (first | (go_at_call 13; refine HT7.out.mono ?_; rintro e w5 ⟨rfl, hb5⟩; have HB5 := Aside0.mk hb5; clear hb5 HT7) | (go_at_call 13; refine (HT8.out w5 HB5.out).mono ?_; rintro e w6 ⟨rfl, hb6⟩; have HB6 := Aside0.mk (below_step HBW.out (below_step HB5.out hb6)); clear hb6) | (go_at_call 12; refine (awake_calls _).mono ?_; rintro e w7 ⟨rfl, hb7⟩; have HB7 := Aside0.mk (below_step HB6.out hb7); clear hb7))
            go_ret
            exact ⟨rfl, HB7.out⟩
      · have h7' : y7 = 2 := h7
        subst h7'
        clear h7
        rcases HF3 with h8 | h8
        · subst h8
          go_wp2_with (first | (go_at_call 13; refine HT7.out.mono ?_; rintro e w5 ⟨rfl, hb5⟩; have HB5 := Aside0.mk hb5; clear hb5 HT7) | (go_at_call 13; refine (HT8.out w5 HB5.out).mono ?_; rintro e w6 ⟨rfl, hb6⟩; have HB6 := Aside0.mk (below_step HBW.out (below_step HB5.out hb6)); clear hb6) | (go_at_call 12; refine (awake_calls _).mono ?_; rintro e w7 ⟨rfl, hb7⟩; have HB7 := Aside0.mk (below_step HB6.out hb7); clear hb7))
          go_ret
          exact ⟨rfl, HB7.out⟩
        · cases b8 with
          | true =>
            go_wp2_with (first | (go_at_call 13; refine HT7.out.mono ?_; rintro e w5 ⟨rfl, hb5⟩; have HB5 := Aside0.mk hb5; clear hb5 HT7) | (go_at_call 13; refine (HT8.out w5 HB5.out).mono ?_; rintro e w6 ⟨rfl, hb6⟩; have HB6 := Aside0.mk (below_step HBW.out (below_step HB5.out hb6)); clear hb6) | (go_at_call 12; refine (awake_calls _).mono ?_; rintro e w7 ⟨rfl, hb7⟩; have HB7 := Aside0.mk (below_step HB6.out hb7); clear hb7))
            go_ret
            exact ⟨rfl, HB7.out⟩
          | false =>
            go_wp2_with (first | (go_at_call 13; refine HT7.out.mono ?_; rintro e w5 ⟨rfl, hb5⟩; have HB5 := Aside0.mk hb5; clear hb5 HT7) | (go_at_call 13; refine (HT8.out w5 HB5.out).mono ?_; rintro e w6 ⟨rfl, hb6⟩; have HB6 := Aside0.mk (below_step HBW.out (below_step HB5.out hb6)); clear hb6) | (go_at_call 12; refine (awake_calls _).mono ?_; rintro e w7 ⟨rfl, hb7⟩; have HB7 := Aside0.mk (below_step HB6.out hb7); clear hb7))
            go_ret
            exact ⟨rfl, HB7.out⟩
end Go.Proofs.Ytiepinfcndefhaa.S
