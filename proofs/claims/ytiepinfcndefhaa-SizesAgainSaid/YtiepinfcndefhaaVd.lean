/- The reference's put: the walk. No condition. -/
import Derived.Test.YtiepinfcndefhaaVc
namespace Go.Proofs.Ytiepinfcndefhaa.S
open Go.RowKit Go.Proofs.YtiepinfcndefhaaW.PrintWords Go.Proofs.YtiepinfcndefhaaW.PrintLast Go.Proofs.YtiepinfcndefhaaW.PrintMore
set_option linter.unusedVariables false
set_option linter.unusedSimpArgs false

theorem grown_none2 {w W : World} {row : Option Nat} (h : Below w.heap.size w W) : w.grownBy W row := grown_of_below h row
theorem n_get {W : World} {base g n cap : Nat} {ok : Nat → Prop} {x : List Cl} (h : Kd.N kCl 34 W base ok (.slice (some ⟨g, 0, none⟩) n cap) x) (i : Nat) (hi : i < x.length) : ∃ A1 c1, Kd.FK kCl W (fun k => ok k ∧ k ≠ g) x[i] [.string x[i].src, .string x[i].dst, .slice A1 x[i].arcs.length c1] ∧
    W.cell? ⟨g, i * 3, none⟩ = some (.string x[i].src) ∧ W.cell? ⟨g, i * 3 + 1, none⟩ = some (.string x[i].dst) ∧ W.cell? ⟨g, i * 3 + 2, none⟩ = some (.slice A1 x[i].arcs.length c1) ∧ ∀ j, W.frozen? ⟨g, i * 3 + j, none⟩ = false := by
  have hn : n = x.length := (Kd.N_reads' h).1
  obtain ⟨c, hcl, hf, hc, hfr⟩ := Kd.N_elem h (⟨.empty, .empty, []⟩ : Cl) (i : Int) (by omega) (by omega)
  rw [Int.toNat_natCast] at hf hc hfr
  rw [show x.getD i (⟨.empty, .empty, []⟩ : Cl) = x[i] by rw [List.getD_eq_getElem?_getD, List.getElem?_eq_getElem hi]; rfl] at hf
  have hk := Kd.FK_now hf
  obtain ⟨c0, c1, rfl, rfl, c2, c3, rfl, rfl, A1, cp, rfl, hcp, hr⟩ := hk
  exact ⟨A1, cp, hf, hc 0 _ rfl, hc 1 _ rfl, hc 2 _ rfl, hfr⟩
theorem n_put {W : World} {base g n cap : Nat} {ok okp : Nat → Prop} {x : List Cl} (h : Kd.N kCl 34 W base ok (.slice (some ⟨g, 0, none⟩) n cap) x) (i : Nat) (hi : i < x.length) {y : Cl} {a b d : Value} (hM : Kd.FK kCl W okp y [a, b, d]) (hokp : ∀ k, okp k → ok k ∧ k ≠ g) :
    Kd.N kCl 34 (W.setCells g (i * 3) [a, b, d]) base ok (.slice (some ⟨g, 0, none⟩) n cap) (x.set i y) ∧ W.grownBy (W.setCells g (i * 3) [a, b, d]) (some g) := by
  have hn : n = x.length := (Kd.N_reads' h).1
  obtain ⟨c, hcl, hf, hc, hfr⟩ := Kd.N_elem h (⟨.empty, .empty, []⟩ : Cl) (i : Int) (by omega) (by omega)
  have hcl3 : c.length = 3 := hcl
  have q := Go.Proofs.YtiepinfcndefhaaW.PrintWords.Kd.N_seg h (i : Int) (by omega) (by omega) (c := c) (seg := [a, b, d]) (j := 0) (x' := y) (okp := okp) hcl hc (Nat.le_refl 3) (by
    rw [List.take_zero, List.nil_append, List.drop_eq_nil_of_le (show c.length ≤ 0 + [a, b, d].length by rw [hcl3]; simp), List.append_nil]
    exact hM) hokp
  rw [Int.toNat_natCast] at q
  exact q
theorem grown_two {a b c : World} {g : Nat} (h : a.grownBy b (some g)) (h2 : b.grownBy c (some g)) : a.grownBy c (some g) := ⟨h2.os.trans h.os, h2.tape.trans h.tape, h2.output.trans h.output, Nat.le_trans h.size h2.size, fun k hk hn => (h2.block k (Nat.lt_of_lt_of_le hk h.size) hn).trans (h.block k hk hn)⟩
theorem grown_three {a b c : World} {g : Nat} {row : Option Nat} (h : a.grownBy b row) (h2 : b.grownBy c (some g)) (hg : ∀ k, k < a.heap.size → some k ≠ row → k ≠ g) : a.grownBy c row := ⟨h2.os.trans h.os, h2.tape.trans h.tape, h2.output.trans h.output, Nat.le_trans h.size h2.size, fun k hk hn => (h2.block k (Nat.lt_of_lt_of_le hk h.size) (fun e => hg k hk hn (Option.some.inj e))).trans (h.block k hk hn)⟩
/-- A row that is being shifted: place i is free. -/
structure Shf (l : List Cl) (i : Nat) (x : List Cl) : Prop where
  len : x.length = l.length + 1
  low : ∀ j, j < i → x[j]? = l[j]?
  high : ∀ j, i < j → x[j]? = l[j - 1]?
theorem shf_start (l : List Cl) (c : Cl) : Shf l l.length (l ++ [c]) := ⟨by simp, fun j h => List.getElem?_append_left h, fun j h => by rw [List.getElem?_eq_none (by simp; omega), List.getElem?_eq_none (by omega)]⟩
theorem shf_step {l : List Cl} {i : Nat} {x : List Cl} (h : Shf l (i + 1) x) (hi : i + 1 ≤ l.length) {y : Cl} (hy : x[i]? = some y) : Shf l i (x.set (i + 1) y) := ⟨by rw [List.length_set, h.len], fun j hj => by rw [List.getElem?_set_ne (by omega)]; exact h.low j (by omega), fun j hj => by
  by_cases e : j = i + 1
  · subst e
    rw [List.getElem?_set_self (by have := h.len; omega), ← hy, h.low i (by omega)]
    rfl
  · rw [List.getElem?_set_ne (by omega)]
    exact h.high j (by omega)⟩
theorem shf_end {l : List Cl} {k : Nat} {x : List Cl} (h : Shf l k x) (hk : k ≤ l.length) (c : Cl) : x.set k c = l.take k ++ c :: l.drop k := by
  have hlt : (l.take k).length = k := by rw [List.length_take]; omega
  refine List.ext_getElem? fun j => ?_
  by_cases e : j = k
  · subst e
    rw [List.getElem?_set_self (by have := h.len; omega), List.getElem?_append_right (by omega), hlt, Nat.sub_self]
    rfl
  · rw [List.getElem?_set_ne (by omega)]
    by_cases e2 : j < k
    · rw [List.getElem?_append_left (by omega), List.getElem?_take_of_lt e2, h.low j e2]
    · rw [h.high j (by omega), List.getElem?_append_right (by omega), hlt, show j - k = (j - 1 - k) + 1 by omega, List.getElem?_cons_succ, List.getElem?_drop]
      congr 1
      omega
set_option maxHeartbeats 4000000 in
set_option maxRecDepth 100000 in
theorem put_calls (A C : Option Addr) (cp cpc : Nat) (l : List Cl) (c : Cl) (base : Nat) (ok okp : Nat → Prop) (w : World) (hl : Kd.N kCl 34 w base ok (.slice A l.length cp) l) (hlen : l.length ≤ 10000) (hc : kAc.C w C c.arcs.length c.arcs)
    (hfc : Kd.FK kCl w okp c [.string c.src, .string c.dst, .slice C c.arcs.length cpc]) (hokp : ∀ k, okp k → ok k ∧ some k ≠ (Value.slice A l.length cp).ownBlock) (hfresh : ∀ k, w.heap.size ≤ k → ok k) (hbase : base ≤ w.heap.size) :
    Calls Try.prog 56 #[.slice A l.length cp, .agg #[.string c.src, .string c.dst, .slice C c.arcs.length cpc]] w fun e w' => ∃ (k : Nat) (v' : Value), k ≤ l.length ∧ Low l c k ∧ High l c k ∧ e = .returned (.tuple #[v', .bool (putF l c k).2]) ∧ Kd.N kCl 34 w' base ok v' (putF l c k).1 ∧ w.grownBy w' (Value.slice A l.length cp).ownBlock ∧
      (v'.ownBlock = (Value.slice A l.length cp).ownBlock ∨ ∃ b, v'.ownBlock = some b ∧ w.heap.size ≤ b) := by
  have HL := Aside0.mk hl
  have HLN := Aside0.mk hlen
  have HCC := Aside0.mk hc
  have HFC := Aside0.mk hfc
  have HOK := Aside0.mk hokp
  have HFR := Aside0.mk hfresh
  have HBS := Aside0.mk hbase
  have HB0 := Aside0.mk (show Below w.heap.size w (w.alloc (.cells #[.string c.src, .string c.dst, .slice C c.arcs.length cpc] 34)) from below_alloc (Below.refl _ _) _)
  have HC0 : Aside0 (Blk (w.alloc (.cells #[.string c.src, .string c.dst, .slice C c.arcs.length cpc] 34)) w.heap.size c C cpc) := ⟨blk_new w _⟩
  have HPL := Aside0.mk (fun (W : World) (h : Below w.heap.size w W) => place_calls A C cp cpc l c W (Kd.C_below (Kd.N_reads' hl).2.2 h) (by omega) (Kd.C_below hc h))
  clear hl hlen hc hfc hokp hfresh hbase
  go_enter Try.func56, Try.ntmps56
  obtain ⟨x0, x1, x2⟩ := Blk.cells HC0.out
  go_wp2_with (go_at_call 76; refine (HPL.out _ HB0.out).mono ?_; rintro e w1 ⟨k, rfl, hk, hlo, hhi, hb1⟩; have HK := Aside0.mk hk; have HLO := Aside0.mk hlo; have HHI := Aside0.mk hhi; have HC1 := Aside0.mk (HC0.out.go hb1); have HB1 := Aside0.mk (below_step HB0.out hb1); clear hk hlo hhi hb1 HPL)
  have HLK := Aside0.mk (show decide ((k : Int) < (l.length : Int)) = decide (k < l.length) by by_cases h : k < l.length <;> simp [h])
  by_cases hlt : k < l.length
  · have hdx : decide ((k : Int) < (l.length : Int)) = true := decide_eq_true (by omega)
    have hk0 : (k : Int) < (l.length : Int) := by omega
    clear x0 x1 x2
    obtain ⟨ad, X, xc, ea, hxc, hx, hqa⟩ := cl_get2 (Kd.C_below (Kd.N_reads' HL.out).2.2 HB1.out) k hlt
    have HEX := Aside0.mk (show l[k]? = some l[k] from List.getElem?_eq_getElem hlt)
    have HEQ := Aside0.mk (fun (W : World) (h : Below w1.heap.size w1 W) => eq_calls X C xc cpc l[k] c W (Kd.C_below hx h) (Kd.C_below HCC.out (below_step HB1.out h)))
    generalize l[k] = x at hqa HEX HEQ
    have HPF := Aside0.mk (eqC_iff x c)
    obtain ⟨xs, xd, xa⟩ := x
    have HQA := Aside0.mk hqa
    dsimp only at HQA HEQ
    subst ea
    clear hqa hxc hx hlt
    refine start_ (n := 12) (S := fun w' => Below w1.heap.size w1 w') (ds := []) #[false, false, false, false, false, false, false, false, false, false, false, false] (by kernel_rfl) rfl rfl (below_drew1 (Below.refl _ _)) (fun hHeld => ?_)
    refine pure_ (i := 0) (N := some 11) (v := ?_) (a' := ?_) #[true, false, false, false, false, false, false, false, false, false, false, false] rfl rfl (by kernel_rfl) (fun _ _ _ h => h) (Or.inl ⟨by rfl, ?_⟩) ?_ ?_
    rotate_left
    · intro w'
      go_simp
      with_reducible rfl
    rotate_left
    · simp only [Act.put, List.setIfInBounds_toArray, List.set_cons_zero, List.set_cons_succ, i64_w, i32_w]
      rfl
    refine pure_ (i := 1) (N := some 12) (v := ?_) (a' := ?_) #[true, true, false, false, false, false, false, false, false, false, false, false] rfl rfl (by kernel_rfl) (fun _ _ _ h => h) (Or.inl ⟨by rfl, ?_⟩) ?_ ?_
    rotate_left
    · intro w'
      go_simp
      with_reducible rfl
    rotate_left
    · simp only [Act.put, List.setIfInBounds_toArray, List.set_cons_zero, List.set_cons_succ, i64_w, i32_w]
      rfl
    refine one_ (i := 2) (N := some 13) #[true, true, true, false, false, false, false, false, false, false, false, false] rfl rfl (by kernel_rfl) (by decide) (fun K hK => ?_)
    refine value_ (by rfl) rfl (w1 := _) (v := .int .i64 (l.length : Int)) (by go_simp; try rfl) ?_
    refine hK.out _ _ hHeld (fun _ => ?_)
    clear hK K
    refine norm_ (a' := ?_) ?_ ?_
    rotate_left
    · show Act.put _ (some 13) _ = _
      simp only [Act.put, List.setIfInBounds_toArray, List.set_cons_zero, List.set_cons_succ, i64_w, i32_w]
      rfl
    refine pure_ (i := 3) (N := some 14) (v := ?_) (a' := ?_) #[true, true, true, true, false, false, false, false, false, false, false, false] rfl rfl (by kernel_rfl) (fun _ _ _ h => h) (Or.inl ⟨by rfl, ?_⟩) ?_ ?_
    rotate_left
    · intro w'
      go_simp
      with_reducible rfl
    rotate_left
    · simp only [Act.put, List.setIfInBounds_toArray, List.set_cons_zero, List.set_cons_succ, i64_w, i32_w]
      rfl
    refine pure_ (i := 4) (N := some 15) (v := ?_) (a' := ?_) #[true, true, true, true, true, false, false, false, false, false, false, false] rfl rfl (by kernel_rfl) (fun _ _ _ h => h) (Or.inl ⟨by rfl, ?_⟩) ?_ ?_
    rotate_left
    · intro w'
      go_simp
      with_reducible rfl
    rotate_left
    · simp only [Act.put, List.setIfInBounds_toArray, List.set_cons_zero, List.set_cons_succ, i64_w, i32_w]
      rfl
    refine pure_ (i := 5) (N := some 16) (v := ?_) (a' := ?_) #[true, true, true, true, true, true, false, false, false, false, false, false] rfl rfl (by kernel_rfl) (fun _ _ _ h => h) (Or.inl ⟨by rfl, ?_⟩) ?_ ?_
    rotate_left
    · intro w'
      go_simp
      with_reducible rfl
    rotate_left
    · simp only [Act.put, List.setIfInBounds_toArray, List.set_cons_zero, List.set_cons_succ, i64_w, i32_w]
      rfl
    refine pure_ (i := 6) (N := some 17) (v := ?_) (a' := ?_) #[true, true, true, true, true, true, true, false, false, false, false, false] rfl rfl (by kernel_rfl) (fun _ _ _ h => h) (Or.inl ⟨by rfl, ?_⟩) ?_ ?_
    rotate_left
    · intro w'
      go_simp
      with_reducible rfl
    rotate_left
    · simp only [Act.put, List.setIfInBounds_toArray, List.set_cons_zero, List.set_cons_succ, i64_w, i32_w]
      rfl
    refine pure_ (i := 7) (N := some 18) (v := ?_) (a' := ?_) #[true, true, true, true, true, true, true, true, false, false, false, false] rfl rfl (by kernel_rfl) (fun _ _ _ h => h) (Or.inl ⟨by rfl, ?_⟩) ?_ ?_
    rotate_left
    · intro w'
      go_simp
      with_reducible rfl
    rotate_left
    · simp only [Act.put, List.setIfInBounds_toArray, List.set_cons_zero, List.set_cons_succ, i64_w, i32_w]
      rfl
    refine take_ (i := 8) (N := some 19) (v := ?_) (a' := ?_) #[true, true, true, true, true, true, true, true, true, false, false, false] rfl rfl (by kernel_rfl) (fun _ _ _ h => h) (Or.inl ⟨by rfl, ?_⟩) hHeld ?_ ?_
    rotate_left
    · rintro w' s0
      have q := HQA.out w' s0
      obtain ⟨q0, q1, q2⟩ := q
      go_simp
      with_reducible rfl
    rotate_left
    · simp only [Act.put, List.setIfInBounds_toArray, List.set_cons_zero, List.set_cons_succ, i64_w, i32_w]
      rfl
    refine take_ (i := 9) (N := some 20) (v := ?_) (a' := ?_) #[true, true, true, true, true, true, true, true, true, true, false, false] rfl rfl (by kernel_rfl) (fun _ _ _ h => h) (Or.inl ⟨by rfl, ?_⟩) hHeld ?_ ?_
    rotate_left
    · rintro w' s0
      obtain ⟨k0, k1, k2⟩ := Blk.cells (HC1.out.go s0)
      go_simp
      with_reducible rfl
    rotate_left
    · simp only [Act.put, List.setIfInBounds_toArray, List.set_cons_zero, List.set_cons_succ, i64_w, i32_w]
      rfl
    refine one_ (i := 10) (N := some 21) #[true, true, true, true, true, true, true, true, true, true, true, false] rfl rfl (by kernel_rfl) (by decide) (fun K hK => ?_)
    refine goes_ Try.func19 (by kernel_rfl) rfl #[.agg #[.string xs, .string xd, .slice X xa.length xc], .agg #[.string c.src, .string c.dst, .slice C c.arcs.length cpc]] (by rfl) rfl rfl (by (try simp only [List.map_toArray, List.map_cons, List.map_nil]); first | done | rfl) ?_
    refine (HEQ.out _ hHeld).mono ?_
    rintro e2 w3 ⟨rfl, hb3⟩
    refine ⟨_, rfl, ?_⟩
    have hB := below_step hHeld hb3
    refine hK.out _ _ hB (fun _ => ?_)
    clear hK K hHeld hb3
    have hHeld := hB
    clear hB
    refine norm_ (a' := ?_) ?_ ?_
    rotate_left
    · show Act.put _ (some 21) _ = _
      simp only [Act.put, List.setIfInBounds_toArray, List.set_cons_zero, List.set_cons_succ, i64_w, i32_w]
      rfl
    refine pure_ (i := 11) (N := some 22) (v := ?_) (a' := ?_) #[true, true, true, true, true, true, true, true, true, true, true, true] rfl rfl (by kernel_rfl) (fun _ _ _ h => h) (Or.inl ⟨by rfl, ?_⟩) ?_ ?_
    rotate_left
    · intro w'
      go_simp
      with_reducible rfl
    rotate_left
    · simp only [Act.put, List.setIfInBounds_toArray, List.set_cons_zero, List.set_cons_succ, i64_w, i32_w]
      rfl
    refine done_ (by kernel_rfl) ?_
    have HH := Aside0.mk (below_step HB1.out hHeld)
    generalize hbq : eqC ⟨xs, xd, xa⟩ c = bq at HPF
    clear hbq
    cases bq with
    | true =>
      have HP := Aside0.mk (show putF l c k = (l, false) by
        have h1 := of_decide_eq_true HPF.out.symm
        rw [putF, if_pos (by rw [HEX.out, h1])])
      clear HPF HEQ HQA HEX hdx hk0
      go_wp2
      go_ret2
      exact ⟨k, .slice (some ad) l.length cp, HK.out, HLO.out, HHI.out, by rw [HP.out]; rfl, by rw [HP.out]; exact Kd.N_below HL.out HH.out, grown_none2 HH.out, .inl rfl⟩
    | false =>
      have hne : l[k]? ≠ some c := fun h => by
        have h1 := HEX.out.symm.trans h
        have h2 := of_decide_eq_false HPF.out.symm
        exact h2 (Option.some.inj h1)
      clear HPF HEQ HQA HEX hdx hk0
      have HN0 := Aside0.mk hne
      have HHc := Aside0.mk (HC1.out.go hHeld)
      obtain ⟨x0, x1, x2⟩ := Blk.cells HHc.out
      have hlw : wrap64 (l.length : Int) = (l.length : Int) := by have := HLN.out; unfold wrap64; omega
      have HLW := Aside0.mk hlw
      clear hne
      go_wp2_with (at_builtin; go_loud (refine Kd.N_append kCl (w0 := _) (W := _) base rfl (.tmp 24) (.tmp 26) 22 34 (.agg #[.string .empty, .string .empty, .slice none 0 0]) 56 rfl Try.underlying22 info34 rfl (by decide) (by omega) (.slice (some ad) l.length cp) l c [.string c.src, .string c.dst, .slice C c.arcs.length cpc] ok okp rfl rfl (Kd.FK_step HFC.out (fun k_ _ hlt_ => HH.out.block k_ hlt_)) HOK.out (fun k_ hk_ => HFR.out k_ (Nat.le_trans HH.out.size hk_)) (Kd.N_below HL.out HH.out) (Below.refl _ _) (Nat.le_trans HBS.out HH.out.size) (by have := HLN.out; omega) ?_; intro v1 w4 hr4 hb4 hg4 hat4; obtain ⟨g, cap, ev4, hgb, hgl, _⟩ := Kd.N_form hr4 (by simp); subst ev4; rw [List.length_append, List.length_singleton] at hr4; rw [List.length_append, List.length_singleton]; have HR4 := Aside0.mk hr4; have HG4 := Aside0.mk hg4; have HAT := Aside0.mk hat4; clear hr4 hb4 hg4 hat4 hgb hgl x0 x1 x2))
      have hgw : w.heap.size ≠ g ∧ ∀ k_, k_ < w.heap.size → some k_ ≠ (Value.slice (some ad) l.length cp).ownBlock → k_ ≠ g := by
        have hs := HB0.out.size
        rw [World.size_alloc] at hs
        rcases HAT.out with e | ⟨b, e, hb⟩
        · have e2 : (Value.slice (some ad) l.length cp).ownBlock = some g := e.symm.trans (by simp [Value.ownBlock])
          have := Kd.N_lt HL.out g e2
          exact ⟨by omega, fun k_ _ h2 e3 => h2 (by rw [e3, e2])⟩
        · have e2 : g = b := by simpa [Value.ownBlock] using e
          have h3 := HH.out.size
          have h4 := (blk_lt HHc.out)
          exact ⟨by omega, fun k_ h2 _ e3 => by omega⟩
      have HGW := Aside0.mk hgw
      have HC4 : Aside0 (Blk w4 w.heap.size c C cpc) := ⟨blk_grown HHc.out HG4.out (fun e => absurd (Kd.N_lt HL.out w.heap.size e.symm) (Nat.lt_irrefl _))⟩
      have HG0 := Aside0.mk (show w.grownBy w4 (Value.slice (some ad) l.length cp).ownBlock from ⟨HG4.out.os.trans HH.out.os, HG4.out.tape.trans HH.out.tape, HG4.out.output.trans HH.out.output, Nat.le_trans HH.out.size HG4.out.size, fun k_ hk_ hn_ => (HG4.out.block k_ (Nat.lt_of_lt_of_le hk_ HH.out.size) hn_).trans (HH.out.block k_ hk_)⟩)
      have HAT2 := Aside0.mk (show (Value.slice (some ⟨g, 0, none⟩) (l.length + 1) cap).ownBlock = (Value.slice (some ad) l.length cp).ownBlock ∨ ∃ b, (Value.slice (some ⟨g, 0, none⟩) (l.length + 1) cap).ownBlock = some b ∧ w.heap.size ≤ b from by
        rcases HAT.out with e | ⟨b, e, hb⟩
        · exact .inl (e ▸ by simp [Value.ownBlock])
        · exact .inr ⟨b, (by simpa [Value.ownBlock] using e), Nat.le_trans HH.out.size hb⟩)
      have HPU := Aside0.mk (show putF l c k = (l.take k ++ c :: l.drop k, true) from if_neg HN0.out)
      clear hgw HG4 HAT HN0 HHc HH HC1 HB1 HB0 HC0
      have HGR := Aside0.mk (grown_none2 (row := some g) (Below.refl w4.heap.size w4))
      go_loopg [7] (l.length - k) (fun kq v7 w' => ∃ (i : Nat) (x : List Cl), v7 = .int .i64 (i : Int) ∧ Aside0 (kq + k = i) ∧ Aside0 (i ≤ l.length) ∧ Aside0 (Shf l i x) ∧ Aside0 (Kd.N kCl 34 w' base ok (.slice (some ⟨g, 0, none⟩) (l.length + 1) cap) x) ∧ Aside0 (w4.grownBy w' (some g)))
      case atStart => exact ⟨l.length, l ++ [c], by rw [HLW.out], ⟨by have := HK.out; omega⟩, ⟨Nat.le_refl _⟩, ⟨shf_start l c⟩, HR4, HGR⟩
      case round =>
        clear HGR HR4 HLW hlw
        obtain ⟨i, x, rfl, HKI, HIL, HSH, HR4, HGR⟩ := hrel
        have HCW : Aside0 (Blk wr w.heap.size c C cpc) := ⟨blk_grown HC4.out HGR.out (fun e => HGW.out.1 (Option.some.inj e))⟩
        by_cases hki : k < i
        · obtain ⟨m, rfl⟩ : ∃ m, i = m + 1 := ⟨i - 1, by omega⟩
          have hdk : decide ((k : Int) < ((m + 1 : Nat) : Int)) = true := decide_eq_true (by omega)
          have hm1 : wrap64 (((m + 1 : Nat) : Int) - 1) = (m : Int) := by have := HIL.out; have := HLN.out; unfold wrap64; omega
          have hm4 : wrap64 (m : Int) = (m : Int) := by have := HIL.out; have := HLN.out; unfold wrap64; omega
          have hm2 : (m : Int) < ((l.length + 1 : Nat) : Int) := by have := HIL.out; omega
          have hm3 : ((m + 1 : Nat) : Int) < ((l.length + 1 : Nat) : Int) := by have := HIL.out; omega
          obtain ⟨A5, c5, hf5, y0, y1, y2, hz5⟩ := n_get HR4.out m (by have := HSH.out.len; have := HIL.out; omega)
          obtain ⟨A6, c6, hf6, z0, z1, z2, hz6⟩ := n_get HR4.out (m + 1) (by have := HSH.out.len; have := HIL.out; omega)
          have HF5 := Aside0.mk hf5
          have z3 : wr.frozen? ⟨g, (m + 1) * 3, none⟩ = false := hz6 0
          have z4 := hz6 1
          have z5 := hz6 2
          clear hf5 hf6 hz5 hz6
          obtain ⟨HP1, HP2⟩ := n_put HR4.out (m + 1) (by have := HSH.out.len; have := HIL.out; omega) HF5.out (fun k_ hk_ => hk_)
          have HP3 := Aside0.mk HP1
          have HP4 := Aside0.mk HP2
          have HS2 := Aside0.mk (shf_step HSH.out HIL.out (List.getElem?_eq_getElem (show m < x.length by have := HSH.out.len; have := HIL.out; omega)))
          have HM4 := Aside0.mk hm4
          have hmx : m < x.length := by have := HSH.out.len; have := HIL.out; omega
          have HMX := Aside0.mk hmx
          clear hmx
          clear HP1 HP2
          go_wp2
          go_roundg (m - k)
          case measure => have := HKI.out; omega
          case rel => exact ⟨m, x.set (m + 1) (x[m]'HMX.out), by rw [HM4.out], ⟨by have := HKI.out; omega⟩, ⟨by have := HIL.out; omega⟩, HS2, HP3, ⟨grown_two HGR.out HP4.out⟩⟩
        · have hdk : decide ((k : Int) < (i : Int)) = false := decide_eq_false (by omega)
          have e : i = k := by have := HKI.out; omega
          subst e
          have hm3 : (i : Int) < ((l.length + 1 : Nat) : Int) := by have := HIL.out; omega
          obtain ⟨A6, c6, hf6, z0, z1, z2, hz6⟩ := n_get HR4.out i (by have := HSH.out.len; have := HIL.out; omega)
          have z3 : wr.frozen? ⟨g, i * 3, none⟩ = false := hz6 0
          have z4 := hz6 1
          have z5 := hz6 2
          obtain ⟨x0, x1, x2⟩ := Blk.cells HCW.out
          clear hf6 hz6
          have HFW : Aside0 (Kd.FK kCl wr (fun k_ => okp k_ ∧ k_ < w.heap.size) c [.string c.src, .string c.dst, .slice C c.arcs.length cpc]) := ⟨Kd.FK_step (Kd.FK_bound HFC.out) (fun k_ hok_ hlt_ => (HGR.out.block k_ (Nat.lt_of_lt_of_le hlt_ HG0.out.size) (fun e_ => HGW.out.2 k_ hlt_ (HOK.out k_ hok_.1).2 (Option.some.inj e_))).trans (HG0.out.block k_ hlt_ (HOK.out k_ hok_.1).2))⟩
          obtain ⟨HP1, HP2⟩ := n_put HR4.out i (by have := HSH.out.len; have := HIL.out; omega) HFW.out (fun k_ hk_ => ⟨(HOK.out k_ hk_.1).1, HGW.out.2 k_ hk_.2 (HOK.out k_ hk_.1).2⟩)
          rw [shf_end HSH.out HIL.out c] at HP1
          have HP3 := Aside0.mk HP1
          have HP4 := Aside0.mk HP2
          clear HP1 HP2
          go_wp2
          go_ret2
          exact ⟨i, _, HK.out, HLO.out, HHI.out, by rw [HPU.out]; rfl, by rw [HPU.out]; exact HP3.out, grown_three HG0.out (grown_two HGR.out HP4.out) HGW.out.2, HAT2.out⟩

  · have hne : l[k]? ≠ some c := fun h => by rw [List.getElem?_eq_none (by omega)] at h; cases h
    have hdx : decide ((k : Int) < (l.length : Int)) = false := decide_eq_false (by omega)
    clear x0 x1 x2
    refine start_ (n := 12) (S := fun w' => Below w1.heap.size w1 w') (ds := []) #[false, false, false, false, false, false, false, false, false, false, false, false] (by kernel_rfl) rfl rfl (below_drew1 (Below.refl _ _)) (fun hHeld => ?_)
    refine pure_ (i := 0) (N := some 11) (v := ?_) (a' := ?_) #[true, false, false, false, false, false, false, false, false, false, false, false] rfl rfl (by kernel_rfl) (fun _ _ _ h => h) (Or.inl ⟨by rfl, ?_⟩) ?_ ?_
    rotate_left
    · intro w'
      go_simp
      with_reducible rfl
    rotate_left
    · simp only [Act.put, List.setIfInBounds_toArray, List.set_cons_zero, List.set_cons_succ, i64_w, i32_w]
      rfl
    refine pure_ (i := 1) (N := some 12) (v := ?_) (a' := ?_) #[true, true, false, false, false, false, false, false, false, false, false, false] rfl rfl (by kernel_rfl) (fun _ _ _ h => h) (Or.inl ⟨by rfl, ?_⟩) ?_ ?_
    rotate_left
    · intro w'
      go_simp
      with_reducible rfl
    rotate_left
    · simp only [Act.put, List.setIfInBounds_toArray, List.set_cons_zero, List.set_cons_succ, i64_w, i32_w]
      rfl
    refine one_ (i := 2) (N := some 13) #[true, true, true, false, false, false, false, false, false, false, false, false] rfl rfl (by kernel_rfl) (by decide) (fun K hK => ?_)
    refine value_ (by rfl) rfl (w1 := _) (v := .int .i64 (l.length : Int)) (by go_simp; try rfl) ?_
    refine hK.out _ _ hHeld (fun _ => ?_)
    clear hK K
    refine norm_ (a' := ?_) ?_ ?_
    rotate_left
    · show Act.put _ (some 13) _ = _
      simp only [Act.put, List.setIfInBounds_toArray, List.set_cons_zero, List.set_cons_succ, i64_w, i32_w]
      rfl
    refine pure_ (i := 3) (N := some 14) (v := ?_) (a' := ?_) #[true, true, true, true, false, false, false, false, false, false, false, false] rfl rfl (by kernel_rfl) (fun _ _ _ h => h) (Or.inl ⟨by rfl, ?_⟩) ?_ ?_
    rotate_left
    · intro w'
      go_simp
      with_reducible rfl
    rotate_left
    · simp only [Act.put, List.setIfInBounds_toArray, List.set_cons_zero, List.set_cons_succ, i64_w, i32_w]
      rfl
    refine pure_ (i := 4) (N := some 15) (v := ?_) (a' := ?_) #[true, true, true, true, true, false, false, false, false, false, false, false] rfl rfl (by kernel_rfl) (fun _ _ _ h => h) (Or.inl ⟨by rfl, ?_⟩) ?_ ?_
    rotate_left
    · intro w'
      go_simp
      with_reducible rfl
    rotate_left
    · simp only [Act.put, List.setIfInBounds_toArray, List.set_cons_zero, List.set_cons_succ, i64_w, i32_w]
      rfl
    refine pure_ (i := 5) (N := some 16) (v := undef) (a' := ?_) #[true, true, true, true, true, true, false, false, false, false, false, false] rfl rfl (by kernel_rfl) (fun _ _ _ h => h) (Or.inr ⟨by rfl, rfl⟩) ?_ ?_
    rotate_left
    · simp only [Act.put, List.setIfInBounds_toArray, List.set_cons_zero, List.set_cons_succ, i64_w, i32_w]
      rfl
    refine pure_ (i := 6) (N := some 17) (v := undef) (a' := ?_) #[true, true, true, true, true, true, true, false, false, false, false, false] rfl rfl (by kernel_rfl) (fun _ _ _ h => h) (Or.inr ⟨by rfl, rfl⟩) ?_ ?_
    rotate_left
    · simp only [Act.put, List.setIfInBounds_toArray, List.set_cons_zero, List.set_cons_succ, i64_w, i32_w]
      rfl
    refine pure_ (i := 7) (N := some 18) (v := undef) (a' := ?_) #[true, true, true, true, true, true, true, true, false, false, false, false] rfl rfl (by kernel_rfl) (fun _ _ _ h => h) (Or.inr ⟨by rfl, rfl⟩) ?_ ?_
    rotate_left
    · simp only [Act.put, List.setIfInBounds_toArray, List.set_cons_zero, List.set_cons_succ, i64_w, i32_w]
      rfl
    refine pure_ (i := 8) (N := some 19) (v := undef) (a' := ?_) #[true, true, true, true, true, true, true, true, true, false, false, false] rfl rfl (by kernel_rfl) (fun _ _ _ h => h) (Or.inr ⟨by rfl, rfl⟩) ?_ ?_
    rotate_left
    · simp only [Act.put, List.setIfInBounds_toArray, List.set_cons_zero, List.set_cons_succ, i64_w, i32_w]
      rfl
    refine pure_ (i := 9) (N := some 20) (v := undef) (a' := ?_) #[true, true, true, true, true, true, true, true, true, true, false, false] rfl rfl (by kernel_rfl) (fun _ _ _ h => h) (Or.inr ⟨by rfl, rfl⟩) ?_ ?_
    rotate_left
    · simp only [Act.put, List.setIfInBounds_toArray, List.set_cons_zero, List.set_cons_succ, i64_w, i32_w]
      rfl
    refine pure_ (i := 10) (N := some 21) (v := undef) (a' := ?_) #[true, true, true, true, true, true, true, true, true, true, true, false] rfl rfl (by kernel_rfl) (fun _ _ _ h => h) (Or.inr ⟨by rfl, rfl⟩) ?_ ?_
    rotate_left
    · simp only [Act.put, List.setIfInBounds_toArray, List.set_cons_zero, List.set_cons_succ, i64_w, i32_w]
      rfl
    refine pure_ (i := 11) (N := some 22) (v := ?_) (a' := ?_) #[true, true, true, true, true, true, true, true, true, true, true, true] rfl rfl (by kernel_rfl) (fun _ _ _ h => h) (Or.inl ⟨by rfl, ?_⟩) ?_ ?_
    rotate_left
    · intro w'
      go_simp
      with_reducible rfl
    rotate_left
    · simp only [Act.put, List.setIfInBounds_toArray, List.set_cons_zero, List.set_cons_succ, i64_w, i32_w]
      rfl
    refine done_ (by kernel_rfl) ?_
    have HH := Aside0.mk (below_step HB1.out hHeld)
    have HN0 := Aside0.mk hne
    have HHc := Aside0.mk (HC1.out.go hHeld)
    obtain ⟨x0, x1, x2⟩ := Blk.cells HHc.out
    have hlw : wrap64 (l.length : Int) = (l.length : Int) := by have := HLN.out; unfold wrap64; omega
    have HLW := Aside0.mk hlw
    clear hne
    go_wp2_with (at_builtin; go_loud (refine Kd.N_append kCl (w0 := _) (W := _) base rfl (.tmp 24) (.tmp 26) 22 34 (.agg #[.string .empty, .string .empty, .slice none 0 0]) 56 rfl Try.underlying22 info34 rfl (by decide) (by omega) (.slice A l.length cp) l c [.string c.src, .string c.dst, .slice C c.arcs.length cpc] ok okp rfl rfl (Kd.FK_step HFC.out (fun k_ _ hlt_ => HH.out.block k_ hlt_)) HOK.out (fun k_ hk_ => HFR.out k_ (Nat.le_trans HH.out.size hk_)) (Kd.N_below HL.out HH.out) (Below.refl _ _) (Nat.le_trans HBS.out HH.out.size) (by have := HLN.out; omega) ?_; intro v1 w4 hr4 hb4 hg4 hat4; obtain ⟨g, cap, ev4, hgb, hgl, _⟩ := Kd.N_form hr4 (by simp); subst ev4; rw [List.length_append, List.length_singleton] at hr4; rw [List.length_append, List.length_singleton]; have HR4 := Aside0.mk hr4; have HG4 := Aside0.mk hg4; have HAT := Aside0.mk hat4; clear hr4 hb4 hg4 hat4 hgb hgl x0 x1 x2))
    clear hlt hdx
    clear HLK
    have hgw : w.heap.size ≠ g ∧ ∀ k_, k_ < w.heap.size → some k_ ≠ (Value.slice A l.length cp).ownBlock → k_ ≠ g := by
      have hs := HB0.out.size
      rw [World.size_alloc] at hs
      rcases HAT.out with e | ⟨b, e, hb⟩
      · have e2 : (Value.slice A l.length cp).ownBlock = some g := e.symm.trans (by simp [Value.ownBlock])
        have := Kd.N_lt HL.out g e2
        exact ⟨by omega, fun k_ _ h2 e3 => h2 (by rw [e3, e2])⟩
      · have e2 : g = b := by simpa [Value.ownBlock] using e
        have h3 := HH.out.size
        have h4 := (blk_lt HHc.out)
        exact ⟨by omega, fun k_ h2 _ e3 => by omega⟩
    have HGW := Aside0.mk hgw
    have HC4 : Aside0 (Blk w4 w.heap.size c C cpc) := ⟨blk_grown HHc.out HG4.out (fun e => absurd (Kd.N_lt HL.out w.heap.size e.symm) (Nat.lt_irrefl _))⟩
    have HG0 := Aside0.mk (show w.grownBy w4 (Value.slice A l.length cp).ownBlock from ⟨HG4.out.os.trans HH.out.os, HG4.out.tape.trans HH.out.tape, HG4.out.output.trans HH.out.output, Nat.le_trans HH.out.size HG4.out.size, fun k_ hk_ hn_ => (HG4.out.block k_ (Nat.lt_of_lt_of_le hk_ HH.out.size) hn_).trans (HH.out.block k_ hk_)⟩)
    have HAT2 := Aside0.mk (show (Value.slice (some ⟨g, 0, none⟩) (l.length + 1) cap).ownBlock = (Value.slice A l.length cp).ownBlock ∨ ∃ b, (Value.slice (some ⟨g, 0, none⟩) (l.length + 1) cap).ownBlock = some b ∧ w.heap.size ≤ b from by
      rcases HAT.out with e | ⟨b, e, hb⟩
      · exact .inl (e ▸ by simp [Value.ownBlock])
      · exact .inr ⟨b, (by simpa [Value.ownBlock] using e), Nat.le_trans HH.out.size hb⟩)
    have HPU := Aside0.mk (show putF l c k = (l.take k ++ c :: l.drop k, true) from if_neg HN0.out)
    clear hgw HG4 HAT HN0 HHc HH HC1 HB1 HB0 HC0
    have HGR := Aside0.mk (grown_none2 (row := some g) (Below.refl w4.heap.size w4))
    go_loopg [7] (l.length - k) (fun kq v7 w' => ∃ (i : Nat) (x : List Cl), v7 = .int .i64 (i : Int) ∧ Aside0 (kq + k = i) ∧ Aside0 (i ≤ l.length) ∧ Aside0 (Shf l i x) ∧ Aside0 (Kd.N kCl 34 w' base ok (.slice (some ⟨g, 0, none⟩) (l.length + 1) cap) x) ∧ Aside0 (w4.grownBy w' (some g)))
    case atStart => exact ⟨l.length, l ++ [c], by rw [HLW.out], ⟨by have := HK.out; omega⟩, ⟨Nat.le_refl _⟩, ⟨shf_start l c⟩, HR4, HGR⟩
    case round =>
      clear HGR HR4 HLW hlw
      obtain ⟨i, x, rfl, HKI, HIL, HSH, HR4, HGR⟩ := hrel
      have HCW : Aside0 (Blk wr w.heap.size c C cpc) := ⟨blk_grown HC4.out HGR.out (fun e => HGW.out.1 (Option.some.inj e))⟩
      by_cases hki : k < i
      · obtain ⟨m, rfl⟩ : ∃ m, i = m + 1 := ⟨i - 1, by omega⟩
        have hdk : decide ((k : Int) < ((m + 1 : Nat) : Int)) = true := decide_eq_true (by omega)
        have hm1 : wrap64 (((m + 1 : Nat) : Int) - 1) = (m : Int) := by have := HIL.out; have := HLN.out; unfold wrap64; omega
        have hm4 : wrap64 (m : Int) = (m : Int) := by have := HIL.out; have := HLN.out; unfold wrap64; omega
        have hm2 : (m : Int) < ((l.length + 1 : Nat) : Int) := by have := HIL.out; omega
        have hm3 : ((m + 1 : Nat) : Int) < ((l.length + 1 : Nat) : Int) := by have := HIL.out; omega
        obtain ⟨A5, c5, hf5, y0, y1, y2, hz5⟩ := n_get HR4.out m (by have := HSH.out.len; have := HIL.out; omega)
        obtain ⟨A6, c6, hf6, z0, z1, z2, hz6⟩ := n_get HR4.out (m + 1) (by have := HSH.out.len; have := HIL.out; omega)
        have HF5 := Aside0.mk hf5
        have z3 : wr.frozen? ⟨g, (m + 1) * 3, none⟩ = false := hz6 0
        have z4 := hz6 1
        have z5 := hz6 2
        clear hf5 hf6 hz5 hz6
        obtain ⟨HP1, HP2⟩ := n_put HR4.out (m + 1) (by have := HSH.out.len; have := HIL.out; omega) HF5.out (fun k_ hk_ => hk_)
        have HP3 := Aside0.mk HP1
        have HP4 := Aside0.mk HP2
        have HS2 := Aside0.mk (shf_step HSH.out HIL.out (List.getElem?_eq_getElem (show m < x.length by have := HSH.out.len; have := HIL.out; omega)))
        have HM4 := Aside0.mk hm4
        have hmx : m < x.length := by have := HSH.out.len; have := HIL.out; omega
        have HMX := Aside0.mk hmx
        clear hmx
        clear HP1 HP2
        go_wp2
        go_roundg (m - k)
        case measure => have := HKI.out; omega
        case rel => exact ⟨m, x.set (m + 1) (x[m]'HMX.out), by rw [HM4.out], ⟨by have := HKI.out; omega⟩, ⟨by have := HIL.out; omega⟩, HS2, HP3, ⟨grown_two HGR.out HP4.out⟩⟩
      · have hdk : decide ((k : Int) < (i : Int)) = false := decide_eq_false (by omega)
        have e : i = k := by have := HKI.out; omega
        subst e
        have hm3 : (i : Int) < ((l.length + 1 : Nat) : Int) := by have := HIL.out; omega
        obtain ⟨A6, c6, hf6, z0, z1, z2, hz6⟩ := n_get HR4.out i (by have := HSH.out.len; have := HIL.out; omega)
        have z3 : wr.frozen? ⟨g, i * 3, none⟩ = false := hz6 0
        have z4 := hz6 1
        have z5 := hz6 2
        obtain ⟨x0, x1, x2⟩ := Blk.cells HCW.out
        clear hf6 hz6
        have HFW : Aside0 (Kd.FK kCl wr (fun k_ => okp k_ ∧ k_ < w.heap.size) c [.string c.src, .string c.dst, .slice C c.arcs.length cpc]) := ⟨Kd.FK_step (Kd.FK_bound HFC.out) (fun k_ hok_ hlt_ => (HGR.out.block k_ (Nat.lt_of_lt_of_le hlt_ HG0.out.size) (fun e_ => HGW.out.2 k_ hlt_ (HOK.out k_ hok_.1).2 (Option.some.inj e_))).trans (HG0.out.block k_ hlt_ (HOK.out k_ hok_.1).2))⟩
        obtain ⟨HP1, HP2⟩ := n_put HR4.out i (by have := HSH.out.len; have := HIL.out; omega) HFW.out (fun k_ hk_ => ⟨(HOK.out k_ hk_.1).1, HGW.out.2 k_ hk_.2 (HOK.out k_ hk_.1).2⟩)
        rw [shf_end HSH.out HIL.out c] at HP1
        have HP3 := Aside0.mk HP1
        have HP4 := Aside0.mk HP2
        clear HP1 HP2
        go_wp2
        go_ret2
        exact ⟨i, _, HK.out, HLO.out, HHI.out, by rw [HPU.out]; rfl, by rw [HPU.out]; exact HP3.out, grown_three HG0.out (grown_two HGR.out HP4.out) HGW.out.2, HAT2.out⟩

end Go.Proofs.Ytiepinfcndefhaa.S
