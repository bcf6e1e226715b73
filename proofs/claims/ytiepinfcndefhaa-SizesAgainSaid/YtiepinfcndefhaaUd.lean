/- The reference's compose: the walk. No condition. -/
import Derived.Test.YtiepinfcndefhaaUc
namespace Go.Proofs.Ytiepinfcndefhaa.S
open Go.RowKit Go.Proofs.YtiepinfcndefhaaW.PrintWords Go.Proofs.YtiepinfcndefhaaW.PrintLast Go.Proofs.YtiepinfcndefhaaW.PrintMore
set_option linter.unusedVariables false
set_option linter.unusedSimpArgs false

section
variable {P : Program} {ops : Array Oper} {Q : Exit → Act → World → Prop} {md : Region.Mode} {S : World → Prop} {ds : List Nat}
theorem three_ {i j k : Nat} {Ni Nj Nk : Option Tmp} {oi oj ok_ : Oper} {fuel : Nat} {l : Array Bool} {a : Act} {w : World} (li lj lk : Array Bool) (hi : ops[i]? = some oi) (hj : ops[j]? = some oj) (hk : ops[k]? = some ok_) (hNi : oi.dst = Ni) (hNj : oj.dst = Nj) (hNk : ok_.dst = Nk)
    (hc : (Region.ready md ops l == [i, j, k] && l.setIfInBounds i true == li && l.setIfInBounds j true == lj && l.setIfInBounds k true == lk) = true) (hdi : i ∉ ds) (hdj : j ∉ ds) (hdk : k ∉ ds)
    (h1 : ∀ K : Act → World → Prop, Shut (∀ a' w', S w' → (S w' → wpAnyLast P md ops Q S ds fuel li a' w') → K a' w') → if Region.wanted oi (yielded ops a.tmps) = true then Oper.wp P oi a w K Q else K (a.put Ni undef) w)
    (h2 : ∀ K : Act → World → Prop, Shut (∀ a' w', S w' → (S w' → wpAnyLast P md ops Q S ds fuel lj a' w') → K a' w') → if Region.wanted oj (yielded ops a.tmps) = true then Oper.wp P oj a w K Q else K (a.put Nj undef) w)
    (h3 : ∀ K : Act → World → Prop, Shut (∀ a' w', S w' → (S w' → wpAnyLast P md ops Q S ds fuel lk a' w') → K a' w') → if Region.wanted ok_ (yielded ops a.tmps) = true then Oper.wp P ok_ a w K Q else K (a.put Nk undef) w) :
    wpAnyLast P md ops Q S ds (fuel + 1) l a w := by
  subst hNi
  subst hNj
  subst hNk
  simp only [Bool.and_eq_true, beq_iff_eq] at hc
  obtain ⟨⟨⟨q1, q2⟩, q3⟩, q4⟩ := hc
  subst q2
  subst q3
  subst q4
  exact wpAnyLast_ready q1 (by simp) (AllReadyL.cons hi hdi (fun K hK => h1 K hK) (AllReadyL.cons hj hdj (fun K hK => h2 K hK) (AllReadyL.cons hk hdk (fun K hK => h3 K hK) AllReadyL.nil)))
theorem alloc_run {W : World} {o : Oper} {a : Act} {t : TypeId} (ho : o.op = .alloc t) {cz : Array Value} (hz : ∀ w, (zeroValue t).run P w = .ok (.agg cz) w) : (execOp a.eval o).run P W = .ok (.value (.pointer (some ⟨W.heap.size, 0, none⟩))) (W.alloc (.cells cz t)) := by
  simp [execOp, ho, hz, go_sem, Value.cells, Result.andThen]
end
theorem new_ne {W : World} {b : Nat} {o : Obj} (h : W.heap[b]? = some o) : W.heap.size ≠ b := by
  have := (Array.getElem?_eq_some_iff.1 h).1
  omega
theorem row_step2 {W0 W : World} (h : Below W0.heap.size W0 W) {b : Nat} {cs : Array Value} (hb : W0.heap.size ≤ b) : Below W0.heap.size W0 (W.setRow b cs) := below_setRow' h hb
theorem row_other {W : World} {b g : Nat} {o : Obj} {cs : Array Value} (h : W.heap[g]? = some o) (hne : g ≠ b) : (W.setRow b cs).heap[g]? = some o := by
  simp only [World.setRow]
  rw [Array.getElem?_modify, if_neg (fun e => hne e.symm)]
  exact h
theorem max3_int64 (x y z : Int) (w : World) : (Builtin.max_ #[3, 3, 3] 3 #[.int .i64 x, .int .i64 y, .int .i64 z]).run Try.prog w = .ok (.int .i64 (max (max x y) z)) w := by
  have e : ∀ p q : Int, (if p < q then q else p) = max p q := fun p q => by split <;> omega
  rw [max_three, max2_int, e]
  simp only [Sem.run_bind, Sem.run_pure, Result.andThen, max2_int, e]
/-- The table while it is put together, place by place. -/
structure St (x y : List Int) (n j : Nat) (t : List Int) : Prop where
  len : t.length = 36
  at_ : ∀ i k, i < 6 → k < 6 → tat t i k = if 6 * i + k < n then best x y i k 6 0 else if 6 * i + k = n then best x y i k j 0 else 0
theorem best_succ' (x y : List Int) (i k j : Nat) (z : Int) : best x y i k (j + 1) z = bst x y i k j (best x y i k j z) := by
  unfold best
  rw [List.range_succ, List.foldl_append]
  rfl
theorem St.start (x y : List Int) : St x y 0 0 zeros := ⟨by simp [zeros], fun i k hi hk => by
  rw [show tat zeros i k = 0 from tat_zero _ _, if_neg (by omega)]
  split
  · rfl
  · rfl⟩
theorem St.yes {x y : List Int} {i k j : Nat} {t : List Int} (h : St x y (6 * i + k) j t) (hi : i < 6) (hk : k < 6) (h1 : 0 < tat x i j) (h2 : 0 < tat y j k) : St x y (6 * i + k) (j + 1) (t.set (6 * i + k) (max (max (tat t i k) (tat x i j)) (tat y j k))) := by
  refine ⟨by rw [List.length_set]; exact h.len, fun i' k' hi' hk' => ?_⟩
  rw [tat_set h.len hi hk hi' hk']
  by_cases e : i' = i ∧ k' = k
  · obtain ⟨rfl, rfl⟩ := e
    rw [if_pos ⟨rfl, rfl⟩, if_neg (by omega), if_pos rfl, best_succ', h.at_ i' k' hi' hk', if_neg (by omega), if_pos rfl]
    unfold bst
    rw [if_pos ⟨h1, h2⟩]
  · rw [if_neg e, h.at_ i' k' hi' hk']
    by_cases e2 : 6 * i' + k' < 6 * i + k
    · rw [if_pos e2, if_pos e2]
    · rw [if_neg e2, if_neg e2, if_neg (by omega), if_neg (by omega)]
theorem St.no {x y : List Int} {i k j : Nat} {t : List Int} (h : St x y (6 * i + k) j t) (hk : k < 6) (h1 : ¬ (0 < tat x i j ∧ 0 < tat y j k)) : St x y (6 * i + k) (j + 1) t := by
  refine ⟨h.len, fun i' k' hi' hk' => ?_⟩
  rw [h.at_ i' k' hi' hk']
  by_cases e2 : 6 * i' + k' < 6 * i + k
  · rw [if_pos e2, if_pos e2]
  · rw [if_neg e2, if_neg e2]
    by_cases e3 : 6 * i' + k' = 6 * i + k
    · have e4 : i' = i := by omega
      have e5 : k' = k := by omega
      subst e4
      subst e5
      rw [if_pos rfl, if_pos rfl, best_succ']
      unfold bst
      rw [if_neg h1]
    · rw [if_neg e3, if_neg e3]
theorem St.next {x y : List Int} {n : Nat} {t : List Int} (h : St x y n 6 t) : St x y (n + 1) 0 t := by
  refine ⟨h.len, fun i k hi hk => ?_⟩
  rw [h.at_ i k hi hk]
  by_cases e : 6 * i + k < n
  · rw [if_pos e, if_pos (by omega)]
  · rw [if_neg e]
    by_cases e2 : 6 * i + k = n
    · rw [if_pos e2, if_pos (by omega)]
    · rw [if_neg e2, if_neg (by omega)]
      split
      · rfl
      · rfl
theorem St.fin {x y t : List Int} (h : St x y 36 0 t) : t = comp x y := tab_ext h.len (comp_len x y) fun i k hi hk => by
  rw [h.at_ i k hi hk, if_pos (by omega), comp_at hi hk]
/-- What stands in memory while tables are composed. -/
structure Rc (w W : World) (a b : Cl) (A B : Option Addr) (p q : Nat) (rb xb yb tb : Nat) (x y t : List Int) : Prop where
  below : Below w.heap.size w W
  a : Blk W w.heap.size a A p
  b : Blk W (w.heap.size + 1) b B q
  r : W.heap[rb]? = some (.cells #[.string ⟨#[]⟩, .string ⟨#[]⟩, .slice none 0 0] 34 (0, 0))
  x : W.heap[xb]? = some (.cells (cI x) 95 (0, 0))
  y : W.heap[yb]? = some (.cells (cI y) 95 (0, 0))
  t : W.heap[tb]? = some (.cells (cI t) 95 (0, 0))
  ge : w.heap.size ≤ rb ∧ w.heap.size + 1 + 1 + 1 ≤ tb
  ne : rb ≠ tb ∧ xb ≠ tb ∧ yb ≠ tb
section
variable {w W W2 : World} {a b : Cl} {A B : Option Addr} {p q : Nat} {rb xb yb tb : Nat} {x y t : List Int}
theorem Rc.go (h : Rc w W a b A B p q rb xb yb tb x y t) (hb : Below W.heap.size W W2) : Rc w W2 a b A B p q rb xb yb tb x y t := ⟨below_step h.below hb, h.a.go hb, h.b.go hb, blk_below h.r hb, blk_below h.x hb, blk_below h.y hb, blk_below h.t hb, h.ge, h.ne⟩
theorem Rc.set (h : Rc w W a b A B p q rb xb yb tb x y t) (i k : Nat) (v : Int) : Rc w (W.setCell ⟨tb, i * 6 + k, none⟩ (.int .i64 v)) a b A B p q rb xb yb tb x y (t.set (6 * i + k) v) := by
  have g := h.ge
  have n := h.ne
  have o : ∀ (b : Nat), b ≠ tb → (W.setCell ⟨tb, i * 6 + k, none⟩ (.int .i64 v)).heap[b]? = W.heap[b]? := fun b hb => Below.heap_setCell W ⟨tb, i * 6 + k, none⟩ (.int .i64 v) b hb
  refine ⟨h.below.setCell (by show w.heap.size ≤ tb; omega) _, (o _ (by omega)).trans h.a, (o _ (by omega)).trans h.b, (o _ n.1).trans h.r, (o _ n.2.1).trans h.x, (o _ n.2.2).trans h.y, ?_, h.ge, h.ne⟩
  rw [← cI_set]
  exact heap_set W tb (i * 6 + k) (.int .i64 v) (cI t) 95 h.t
end
set_option maxHeartbeats 8000000 in
set_option maxRecDepth 100000 in
theorem compose_calls (A B : Option Addr) (p q : Nat) (a b : Cl) (w : World) (ha : kAc.C w A a.arcs.length a.arcs) (hb : kAc.C w B b.arcs.length b.arcs) (hoa : a.arcs.all okA = true) (hob : b.arcs.all okA = true) :
    Calls Try.prog 44 #[.agg #[.string a.src, .string a.dst, .slice A a.arcs.length p], .agg #[.string b.src, .string b.dst, .slice B b.arcs.length q]] w fun e w' => ∃ v, e = .returned v ∧ CallOut w' w.heap.size (callG ⟨a.src, b.dst, comp (tabC a.arcs) (tabC b.arcs)⟩) v ∧ Below w.heap.size w w' := by
  have HTA := Aside0.mk (fun (W : World) (h : Below w.heap.size w W) => tabled_calls A p a W (Kd.C_below ha h) hoa)
  have HTB := Aside0.mk (fun (W : World) (h : Below w.heap.size w W) => tabled_calls B q b W (Kd.C_below hb h) hob)
  obtain ⟨ta, hta⟩ : ∃ t, t = tabC a.arcs := ⟨_, rfl⟩
  obtain ⟨tb, htb⟩ : ∃ t, t = tabC b.arcs := ⟨_, rfl⟩
  rw [← hta, ← htb]
  rw [← hta] at HTA
  rw [← htb] at HTB
  have HLA := Aside0.mk (show ta.length = 36 by rw [hta]; exact tabC_len _)
  have HLB := Aside0.mk (show tb.length = 36 by rw [htb]; exact tabC_len _)
  have HSA := Aside0.mk (cI_size HLA.out)
  have HSB := Aside0.mk (cI_size HLB.out)
  obtain ⟨zc, hzc⟩ : ∃ zc, zc = cI zeros := ⟨_, rfl⟩
  have HZR := Aside0.mk (zero95 zc hzc)
  have HZS := Aside0.mk (show zc.size = 36 by rw [hzc]; exact cI_size (by simp [zeros]))
  have HZC := Aside0.mk hzc
  clear ha hb hoa hob hta htb hzc
  have st : ∀ (W : World) (o : Obj), Below W.heap.size W (W.alloc o) := fun W o => below_alloc (Below.refl _ _) o
  have HB0 : Aside0 (Below w.heap.size w (((w.alloc (.cells #[.string a.src, .string a.dst, .slice A a.arcs.length p] 34)).alloc (.cells #[.string b.src, .string b.dst, .slice B b.arcs.length q] 34)).alloc (.cells #[.string ⟨#[]⟩, .string ⟨#[]⟩, .slice none 0 0] 34))) := ⟨below_step (below_step (st _ _) (st _ _)) (st _ _)⟩
  have HCA : Aside0 (Blk (((w.alloc (.cells #[.string a.src, .string a.dst, .slice A a.arcs.length p] 34)).alloc (.cells #[.string b.src, .string b.dst, .slice B b.arcs.length q] 34)).alloc (.cells #[.string ⟨#[]⟩, .string ⟨#[]⟩, .slice none 0 0] 34)) w.heap.size a A p) := ⟨blk_below (blk_below (blk_new w _) (st _ _)) (st _ _)⟩
  have HCB : Aside0 (Blk (((w.alloc (.cells #[.string a.src, .string a.dst, .slice A a.arcs.length p] 34)).alloc (.cells #[.string b.src, .string b.dst, .slice B b.arcs.length q] 34)).alloc (.cells #[.string ⟨#[]⟩, .string ⟨#[]⟩, .slice none 0 0] 34)) (w.heap.size + 1) b B q) := ⟨by
    have h1 := blk_new (w.alloc (.cells #[.string a.src, .string a.dst, .slice A a.arcs.length p] 34)) (.cells #[.string b.src, .string b.dst, .slice B b.arcs.length q] 34)
    rw [World.size_alloc] at h1
    exact blk_below h1 (st _ _)⟩
  have HZ : Aside0 ((((w.alloc (.cells #[.string a.src, .string a.dst, .slice A a.arcs.length p] 34)).alloc (.cells #[.string b.src, .string b.dst, .slice B b.arcs.length q] 34)).alloc (.cells #[.string ⟨#[]⟩, .string ⟨#[]⟩, .slice none 0 0] 34)).heap[w.heap.size + 1 + 1]? = some (.cells #[.string ⟨#[]⟩, .string ⟨#[]⟩, .slice none 0 0] 34 (0, 0))) := ⟨by
    have h1 := blk_new ((w.alloc (.cells #[.string a.src, .string a.dst, .slice A a.arcs.length p] 34)).alloc (.cells #[.string b.src, .string b.dst, .slice B b.arcs.length q] 34)) (.cells #[.string ⟨#[]⟩, .string ⟨#[]⟩, .slice none 0 0] 34)
    rw [World.size_alloc, World.size_alloc] at h1
    exact h1⟩
  have HSZ : Aside0 ((((w.alloc (.cells #[.string a.src, .string a.dst, .slice A a.arcs.length p] 34)).alloc (.cells #[.string b.src, .string b.dst, .slice B b.arcs.length q] 34)).alloc (.cells #[.string ⟨#[]⟩, .string ⟨#[]⟩, .slice none 0 0] 34)).heap.size = w.heap.size + 1 + 1 + 1) := ⟨by simp only [World.size_alloc]⟩
  clear st
  go_enter Try.func44, Try.ntmps44
  go_wp2
  generalize (((w.alloc (.cells #[.string a.src, .string a.dst, .slice A a.arcs.length p] 34)).alloc (.cells #[.string b.src, .string b.dst, .slice B b.arcs.length q] 34)).alloc (.cells #[.string ⟨#[]⟩, .string ⟨#[]⟩, .slice none 0 0] 34)) = W0 at HB0 HCA HCB HZ HSZ ⊢
  refine start_ (n := 8) (S := fun w' => Below W0.heap.size W0 w') (ds := [6, 7]) #[false, false, false, false, false, false, false, false] (by kernel_rfl) rfl rfl (below_drew1 (Below.refl _ _)) (fun hHeld => ?_)
  refine take_ (i := 0) (N := some 11) (v := ?_) (a' := ?_) #[true, false, false, false, false, false, false, false] rfl rfl (by kernel_rfl) (fun _ _ _ h => h) (Or.inl ⟨by rfl, ?_⟩) hHeld ?_ ?_
  rotate_left
  · rintro w' s0
    obtain ⟨y0, y1, y2⟩ := Blk.cells (HCA.out.go s0)
    go_simp
    with_reducible rfl
  rotate_left
  · simp only [Act.put, List.setIfInBounds_toArray, List.set_cons_zero, List.set_cons_succ, i64_w, i32_w]
    rfl
  refine take_ (i := 2) (N := some 13) (v := ?_) (a' := ?_) #[true, false, true, false, false, false, false, false] rfl rfl (by kernel_rfl) (fun _ _ _ h => h) (Or.inl ⟨by rfl, ?_⟩) hHeld ?_ ?_
  rotate_left
  · rintro w' s0
    obtain ⟨y0, y1, y2⟩ := Blk.cells (HCB.out.go s0)
    go_simp
    with_reducible rfl
  rotate_left
  · simp only [Act.put, List.setIfInBounds_toArray, List.set_cons_zero, List.set_cons_succ, i64_w, i32_w]
    rfl
  refine join_ (σ := Nat × Nat) 2 #[true, true, true, true, true, true, false, false] (fun r => [(12, .agg (cI ta)), (14, .agg (cI tb)), (5, .pointer (some ⟨r.1, 0, none⟩)), (6, .pointer (some ⟨r.2, 0, none⟩))]) (fun r w' => Below W0.heap.size W0 w' ∧ w'.heap[r.1]? = some (.cells zc 95 (0, 0)) ∧ w'.heap[r.2]? = some (.cells zc 95 (0, 0)) ∧ r.1 ≠ r.2 ∧ W0.heap.size ≤ r.1 ∧ W0.heap.size ≤ r.2) ?cont ?paths
  case paths =>
    intro HK
    have HJ := Aside0.mk HK
    clear HK
    refine three_ (i := 1) (j := 4) (k := 5) (Ni := some 12) (Nj := some 5) (Nk := some 6) #[true, true, true, false, false, false, false, false] #[true, false, true, false, true, false, false, false] #[true, false, true, false, false, true, false, false] rfl rfl rfl rfl rfl rfl (by kernel_rfl) (by decide) (by decide) (by decide) (fun K hK => ?_) (fun K hK => ?_) (fun K hK => ?_)
    · refine goes_ Try.func49 (by kernel_rfl) rfl #[.agg #[.string a.src, .string a.dst, .slice A a.arcs.length p]] (by rfl) rfl rfl (by (try simp only [List.map_toArray, List.map_cons, List.map_nil]); first | done | rfl) ?_
      refine (HTA.out _ (below_step HB0.out hHeld)).mono ?_
      rintro e2 w10 ⟨rfl, hb7⟩
      refine ⟨_, rfl, ?_⟩
      have hB := below_step hHeld hb7
      refine hK.out _ _ hB (fun _ => ?_)
      clear hK hb7 hHeld
      have hHeld := hB
      clear hB
      refine three_ (i := 3) (j := 4) (k := 5) (Ni := some 14) (Nj := some 5) (Nk := some 6) #[true, true, true, true, false, false, false, false] #[true, true, true, false, true, false, false, false] #[true, true, true, false, false, true, false, false] rfl rfl rfl rfl rfl rfl (by kernel_rfl) (by decide) (by decide) (by decide) (fun K hK => ?_) (fun K hK => ?_) (fun K hK => ?_)
      · refine goes_ Try.func49 (by kernel_rfl) rfl #[.agg #[.string b.src, .string b.dst, .slice B b.arcs.length q]] (by rfl) rfl rfl (by (try simp only [List.map_toArray, List.map_cons, List.map_nil]); first | done | rfl) ?_
        refine (HTB.out _ (below_step HB0.out hHeld)).mono ?_
        rintro e2 w11 ⟨rfl, hb7⟩
        refine ⟨_, rfl, ?_⟩
        have hB := below_step hHeld hb7
        refine hK.out _ _ hB (fun _ => ?_)
        clear hK hb7 hHeld
        have hHeld := hB
        clear hB
        refine two_ (i := 4) (j := 5) (Ni := some 5) (Nj := some 6) #[true, true, true, true, true, false, false, false] #[true, true, true, true, false, true, false, false] rfl rfl rfl rfl (by kernel_rfl) (by decide) (by decide) (fun K hK => ?_) (fun K hK => ?_)
        · refine value_ (by rfl) rfl (w1 := (World.alloc w11 (.cells zc 95))) (v := .pointer (some ⟨(w11).heap.size, 0, none⟩)) (alloc_run rfl HZR.out) ?_
          have hB := below_step hHeld (below_alloc (Below.refl _ _) (.cells zc 95))
          have hga : W0.heap.size ≤ (w11).heap.size := hHeld.size
          have hxa := blk_new (w11) (.cells zc 95)
          refine hK.out _ _ hB (fun _ => ?_)
          clear hK hHeld
          have hHeld := hB
          clear hB
          refine one_ (i := 5) (N := some 6) #[true, true, true, true, true, true, false, false] rfl rfl (by kernel_rfl) (by decide) (fun K hK => ?_)
          refine value_ (by rfl) rfl (w1 := (World.alloc (World.alloc w11 (.cells zc 95)) (.cells zc 95))) (v := .pointer (some ⟨((World.alloc w11 (.cells zc 95))).heap.size, 0, none⟩)) (alloc_run rfl HZR.out) ?_
          have hB := below_step hHeld (below_alloc (Below.refl _ _) (.cells zc 95))
          have hgb : W0.heap.size ≤ ((World.alloc w11 (.cells zc 95))).heap.size := hHeld.size
          have hne : ((World.alloc w11 (.cells zc 95))).heap.size ≠ _ := new_ne hxa
          replace hxa := blk_below hxa (below_alloc (Below.refl _ _) (.cells zc 95))
          have hxb := blk_new ((World.alloc w11 (.cells zc 95))) (.cells zc 95)
          refine hK.out _ _ hB (fun _ => ?_)
          clear hK hHeld
          have hHeld := hB
          clear hB
          refine norm_ ?_ (HJ.out ((w11).heap.size, ((World.alloc w11 (.cells zc 95))).heap.size) _ ⟨hHeld, hxa, hxb, (Ne.symm hne), hga, hgb⟩)
          simp only [putAll, Act.put, List.setIfInBounds_toArray, List.set_cons_zero, List.set_cons_succ]
        · refine value_ (by rfl) rfl (w1 := (World.alloc w11 (.cells zc 95))) (v := .pointer (some ⟨(w11).heap.size, 0, none⟩)) (alloc_run rfl HZR.out) ?_
          have hB := below_step hHeld (below_alloc (Below.refl _ _) (.cells zc 95))
          have hgb : W0.heap.size ≤ (w11).heap.size := hHeld.size
          have hxb := blk_new (w11) (.cells zc 95)
          refine hK.out _ _ hB (fun _ => ?_)
          clear hK hHeld
          have hHeld := hB
          clear hB
          refine one_ (i := 4) (N := some 5) #[true, true, true, true, true, true, false, false] rfl rfl (by kernel_rfl) (by decide) (fun K hK => ?_)
          refine value_ (by rfl) rfl (w1 := (World.alloc (World.alloc w11 (.cells zc 95)) (.cells zc 95))) (v := .pointer (some ⟨((World.alloc w11 (.cells zc 95))).heap.size, 0, none⟩)) (alloc_run rfl HZR.out) ?_
          have hB := below_step hHeld (below_alloc (Below.refl _ _) (.cells zc 95))
          have hga : W0.heap.size ≤ ((World.alloc w11 (.cells zc 95))).heap.size := hHeld.size
          have hne : ((World.alloc w11 (.cells zc 95))).heap.size ≠ _ := new_ne hxb
          replace hxb := blk_below hxb (below_alloc (Below.refl _ _) (.cells zc 95))
          have hxa := blk_new ((World.alloc w11 (.cells zc 95))) (.cells zc 95)
          refine hK.out _ _ hB (fun _ => ?_)
          clear hK hHeld
          have hHeld := hB
          clear hB
          refine norm_ ?_ (HJ.out (((World.alloc w11 (.cells zc 95))).heap.size, (w11).heap.size) _ ⟨hHeld, hxa, hxb, hne, hga, hgb⟩)
          simp only [putAll, Act.put, List.setIfInBounds_toArray, List.set_cons_zero, List.set_cons_succ]
      · refine value_ (by rfl) rfl (w1 := (World.alloc w10 (.cells zc 95))) (v := .pointer (some ⟨(w10).heap.size, 0, none⟩)) (alloc_run rfl HZR.out) ?_
        have hB := below_step hHeld (below_alloc (Below.refl _ _) (.cells zc 95))
        have hga : W0.heap.size ≤ (w10).heap.size := hHeld.size
        have hxa := blk_new (w10) (.cells zc 95)
        refine hK.out _ _ hB (fun _ => ?_)
        clear hK hHeld
        have hHeld := hB
        clear hB
        refine two_ (i := 3) (j := 5) (Ni := some 14) (Nj := some 6) #[true, true, true, true, true, false, false, false] #[true, true, true, false, true, true, false, false] rfl rfl rfl rfl (by kernel_rfl) (by decide) (by decide) (fun K hK => ?_) (fun K hK => ?_)
        · refine goes_ Try.func49 (by kernel_rfl) rfl #[.agg #[.string b.src, .string b.dst, .slice B b.arcs.length q]] (by rfl) rfl rfl (by (try simp only [List.map_toArray, List.map_cons, List.map_nil]); first | done | rfl) ?_
          refine (HTB.out _ (below_step HB0.out hHeld)).mono ?_
          rintro e2 w12 ⟨rfl, hb7⟩
          refine ⟨_, rfl, ?_⟩
          have hB := below_step hHeld hb7
          replace hxa := blk_below hxa hb7
          refine hK.out _ _ hB (fun _ => ?_)
          clear hK hb7 hHeld
          have hHeld := hB
          clear hB
          refine one_ (i := 5) (N := some 6) #[true, true, true, true, true, true, false, false] rfl rfl (by kernel_rfl) (by decide) (fun K hK => ?_)
          refine value_ (by rfl) rfl (w1 := (World.alloc w12 (.cells zc 95))) (v := .pointer (some ⟨(w12).heap.size, 0, none⟩)) (alloc_run rfl HZR.out) ?_
          have hB := below_step hHeld (below_alloc (Below.refl _ _) (.cells zc 95))
          have hgb : W0.heap.size ≤ (w12).heap.size := hHeld.size
          have hne : (w12).heap.size ≠ _ := new_ne hxa
          replace hxa := blk_below hxa (below_alloc (Below.refl _ _) (.cells zc 95))
          have hxb := blk_new (w12) (.cells zc 95)
          refine hK.out _ _ hB (fun _ => ?_)
          clear hK hHeld
          have hHeld := hB
          clear hB
          refine norm_ ?_ (HJ.out ((w10).heap.size, (w12).heap.size) _ ⟨hHeld, hxa, hxb, (Ne.symm hne), hga, hgb⟩)
          simp only [putAll, Act.put, List.setIfInBounds_toArray, List.set_cons_zero, List.set_cons_succ]
        · refine value_ (by rfl) rfl (w1 := (World.alloc (World.alloc w10 (.cells zc 95)) (.cells zc 95))) (v := .pointer (some ⟨((World.alloc w10 (.cells zc 95))).heap.size, 0, none⟩)) (alloc_run rfl HZR.out) ?_
          have hB := below_step hHeld (below_alloc (Below.refl _ _) (.cells zc 95))
          have hgb : W0.heap.size ≤ ((World.alloc w10 (.cells zc 95))).heap.size := hHeld.size
          have hne : ((World.alloc w10 (.cells zc 95))).heap.size ≠ _ := new_ne hxa
          replace hxa := blk_below hxa (below_alloc (Below.refl _ _) (.cells zc 95))
          have hxb := blk_new ((World.alloc w10 (.cells zc 95))) (.cells zc 95)
          refine hK.out _ _ hB (fun _ => ?_)
          clear hK hHeld
          have hHeld := hB
          clear hB
          refine one_ (i := 3) (N := some 14) #[true, true, true, true, true, true, false, false] rfl rfl (by kernel_rfl) (by decide) (fun K hK => ?_)
          refine goes_ Try.func49 (by kernel_rfl) rfl #[.agg #[.string b.src, .string b.dst, .slice B b.arcs.length q]] (by rfl) rfl rfl (by (try simp only [List.map_toArray, List.map_cons, List.map_nil]); first | done | rfl) ?_
          refine (HTB.out _ (below_step HB0.out hHeld)).mono ?_
          rintro e2 w13 ⟨rfl, hb7⟩
          refine ⟨_, rfl, ?_⟩
          have hB := below_step hHeld hb7
          replace hxa := blk_below hxa hb7
          replace hxb := blk_below hxb hb7
          refine hK.out _ _ hB (fun _ => ?_)
          clear hK hb7 hHeld
          have hHeld := hB
          clear hB
          refine norm_ ?_ (HJ.out ((w10).heap.size, ((World.alloc w10 (.cells zc 95))).heap.size) _ ⟨hHeld, hxa, hxb, (Ne.symm hne), hga, hgb⟩)
          simp only [putAll, Act.put, List.setIfInBounds_toArray, List.set_cons_zero, List.set_cons_succ]
      · refine value_ (by rfl) rfl (w1 := (World.alloc w10 (.cells zc 95))) (v := .pointer (some ⟨(w10).heap.size, 0, none⟩)) (alloc_run rfl HZR.out) ?_
        have hB := below_step hHeld (below_alloc (Below.refl _ _) (.cells zc 95))
        have hgb : W0.heap.size ≤ (w10).heap.size := hHeld.size
        have hxb := blk_new (w10) (.cells zc 95)
        refine hK.out _ _ hB (fun _ => ?_)
        clear hK hHeld
        have hHeld := hB
        clear hB
        refine two_ (i := 3) (j := 4) (Ni := some 14) (Nj := some 5) #[true, true, true, true, false, true, false, false] #[true, true, true, false, true, true, false, false] rfl rfl rfl rfl (by kernel_rfl) (by decide) (by decide) (fun K hK => ?_) (fun K hK => ?_)
        · refine goes_ Try.func49 (by kernel_rfl) rfl #[.agg #[.string b.src, .string b.dst, .slice B b.arcs.length q]] (by rfl) rfl rfl (by (try simp only [List.map_toArray, List.map_cons, List.map_nil]); first | done | rfl) ?_
          refine (HTB.out _ (below_step HB0.out hHeld)).mono ?_
          rintro e2 w12 ⟨rfl, hb7⟩
          refine ⟨_, rfl, ?_⟩
          have hB := below_step hHeld hb7
          replace hxb := blk_below hxb hb7
          refine hK.out _ _ hB (fun _ => ?_)
          clear hK hb7 hHeld
          have hHeld := hB
          clear hB
          refine one_ (i := 4) (N := some 5) #[true, true, true, true, true, true, false, false] rfl rfl (by kernel_rfl) (by decide) (fun K hK => ?_)
          refine value_ (by rfl) rfl (w1 := (World.alloc w12 (.cells zc 95))) (v := .pointer (some ⟨(w12).heap.size, 0, none⟩)) (alloc_run rfl HZR.out) ?_
          have hB := below_step hHeld (below_alloc (Below.refl _ _) (.cells zc 95))
          have hga : W0.heap.size ≤ (w12).heap.size := hHeld.size
          have hne : (w12).heap.size ≠ _ := new_ne hxb
          replace hxb := blk_below hxb (below_alloc (Below.refl _ _) (.cells zc 95))
          have hxa := blk_new (w12) (.cells zc 95)
          refine hK.out _ _ hB (fun _ => ?_)
          clear hK hHeld
          have hHeld := hB
          clear hB
          refine norm_ ?_ (HJ.out ((w12).heap.size, (w10).heap.size) _ ⟨hHeld, hxa, hxb, hne, hga, hgb⟩)
          simp only [putAll, Act.put, List.setIfInBounds_toArray, List.set_cons_zero, List.set_cons_succ]
        · refine value_ (by rfl) rfl (w1 := (World.alloc (World.alloc w10 (.cells zc 95)) (.cells zc 95))) (v := .pointer (some ⟨((World.alloc w10 (.cells zc 95))).heap.size, 0, none⟩)) (alloc_run rfl HZR.out) ?_
          have hB := below_step hHeld (below_alloc (Below.refl _ _) (.cells zc 95))
          have hga : W0.heap.size ≤ ((World.alloc w10 (.cells zc 95))).heap.size := hHeld.size
          have hne : ((World.alloc w10 (.cells zc 95))).heap.size ≠ _ := new_ne hxb
          replace hxb := blk_below hxb (below_alloc (Below.refl _ _) (.cells zc 95))
          have hxa := blk_new ((World.alloc w10 (.cells zc 95))) (.cells zc 95)
          refine hK.out _ _ hB (fun _ => ?_)
          clear hK hHeld
          have hHeld := hB
          clear hB
          refine one_ (i := 3) (N := some 14) #[true, true, true, true, true, true, false, false] rfl rfl (by kernel_rfl) (by decide) (fun K hK => ?_)
          refine goes_ Try.func49 (by kernel_rfl) rfl #[.agg #[.string b.src, .string b.dst, .slice B b.arcs.length q]] (by rfl) rfl rfl (by (try simp only [List.map_toArray, List.map_cons, List.map_nil]); first | done | rfl) ?_
          refine (HTB.out _ (below_step HB0.out hHeld)).mono ?_
          rintro e2 w13 ⟨rfl, hb7⟩
          refine ⟨_, rfl, ?_⟩
          have hB := below_step hHeld hb7
          replace hxa := blk_below hxa hb7
          replace hxb := blk_below hxb hb7
          refine hK.out _ _ hB (fun _ => ?_)
          clear hK hb7 hHeld
          have hHeld := hB
          clear hB
          refine norm_ ?_ (HJ.out (((World.alloc w10 (.cells zc 95))).heap.size, (w10).heap.size) _ ⟨hHeld, hxa, hxb, hne, hga, hgb⟩)
          simp only [putAll, Act.put, List.setIfInBounds_toArray, List.set_cons_zero, List.set_cons_succ]
    · refine value_ (by rfl) rfl (w1 := (World.alloc W0.drew (.cells zc 95))) (v := .pointer (some ⟨(W0.drew).heap.size, 0, none⟩)) (alloc_run rfl HZR.out) ?_
      have hB := below_step hHeld (below_alloc (Below.refl _ _) (.cells zc 95))
      have hga : W0.heap.size ≤ (W0.drew).heap.size := hHeld.size
      have hxa := blk_new (W0.drew) (.cells zc 95)
      refine hK.out _ _ hB (fun _ => ?_)
      clear hK hHeld
      have hHeld := hB
      clear hB
      refine two_ (i := 1) (j := 5) (Ni := some 12) (Nj := some 6) #[true, true, true, false, true, false, false, false] #[true, false, true, false, true, true, false, false] rfl rfl rfl rfl (by kernel_rfl) (by decide) (by decide) (fun K hK => ?_) (fun K hK => ?_)
      · refine goes_ Try.func49 (by kernel_rfl) rfl #[.agg #[.string a.src, .string a.dst, .slice A a.arcs.length p]] (by rfl) rfl rfl (by (try simp only [List.map_toArray, List.map_cons, List.map_nil]); first | done | rfl) ?_
        refine (HTA.out _ (below_step HB0.out hHeld)).mono ?_
        rintro e2 w11 ⟨rfl, hb7⟩
        refine ⟨_, rfl, ?_⟩
        have hB := below_step hHeld hb7
        replace hxa := blk_below hxa hb7
        refine hK.out _ _ hB (fun _ => ?_)
        clear hK hb7 hHeld
        have hHeld := hB
        clear hB
        refine two_ (i := 3) (j := 5) (Ni := some 14) (Nj := some 6) #[true, true, true, true, true, false, false, false] #[true, true, true, false, true, true, false, false] rfl rfl rfl rfl (by kernel_rfl) (by decide) (by decide) (fun K hK => ?_) (fun K hK => ?_)
        · refine goes_ Try.func49 (by kernel_rfl) rfl #[.agg #[.string b.src, .string b.dst, .slice B b.arcs.length q]] (by rfl) rfl rfl (by (try simp only [List.map_toArray, List.map_cons, List.map_nil]); first | done | rfl) ?_
          refine (HTB.out _ (below_step HB0.out hHeld)).mono ?_
          rintro e2 w12 ⟨rfl, hb7⟩
          refine ⟨_, rfl, ?_⟩
          have hB := below_step hHeld hb7
          replace hxa := blk_below hxa hb7
          refine hK.out _ _ hB (fun _ => ?_)
          clear hK hb7 hHeld
          have hHeld := hB
          clear hB
          refine one_ (i := 5) (N := some 6) #[true, true, true, true, true, true, false, false] rfl rfl (by kernel_rfl) (by decide) (fun K hK => ?_)
          refine value_ (by rfl) rfl (w1 := (World.alloc w12 (.cells zc 95))) (v := .pointer (some ⟨(w12).heap.size, 0, none⟩)) (alloc_run rfl HZR.out) ?_
          have hB := below_step hHeld (below_alloc (Below.refl _ _) (.cells zc 95))
          have hgb : W0.heap.size ≤ (w12).heap.size := hHeld.size
          have hne : (w12).heap.size ≠ _ := new_ne hxa
          replace hxa := blk_below hxa (below_alloc (Below.refl _ _) (.cells zc 95))
          have hxb := blk_new (w12) (.cells zc 95)
          refine hK.out _ _ hB (fun _ => ?_)
          clear hK hHeld
          have hHeld := hB
          clear hB
          refine norm_ ?_ (HJ.out ((W0.drew).heap.size, (w12).heap.size) _ ⟨hHeld, hxa, hxb, (Ne.symm hne), hga, hgb⟩)
          simp only [putAll, Act.put, List.setIfInBounds_toArray, List.set_cons_zero, List.set_cons_succ]
        · refine value_ (by rfl) rfl (w1 := (World.alloc w11 (.cells zc 95))) (v := .pointer (some ⟨(w11).heap.size, 0, none⟩)) (alloc_run rfl HZR.out) ?_
          have hB := below_step hHeld (below_alloc (Below.refl _ _) (.cells zc 95))
          have hgb : W0.heap.size ≤ (w11).heap.size := hHeld.size
          have hne : (w11).heap.size ≠ _ := new_ne hxa
          replace hxa := blk_below hxa (below_alloc (Below.refl _ _) (.cells zc 95))
          have hxb := blk_new (w11) (.cells zc 95)
          refine hK.out _ _ hB (fun _ => ?_)
          clear hK hHeld
          have hHeld := hB
          clear hB
          refine one_ (i := 3) (N := some 14) #[true, true, true, true, true, true, false, false] rfl rfl (by kernel_rfl) (by decide) (fun K hK => ?_)
          refine goes_ Try.func49 (by kernel_rfl) rfl #[.agg #[.string b.src, .string b.dst, .slice B b.arcs.length q]] (by rfl) rfl rfl (by (try simp only [List.map_toArray, List.map_cons, List.map_nil]); first | done | rfl) ?_
          refine (HTB.out _ (below_step HB0.out hHeld)).mono ?_
          rintro e2 w13 ⟨rfl, hb7⟩
          refine ⟨_, rfl, ?_⟩
          have hB := below_step hHeld hb7
          replace hxa := blk_below hxa hb7
          replace hxb := blk_below hxb hb7
          refine hK.out _ _ hB (fun _ => ?_)
          clear hK hb7 hHeld
          have hHeld := hB
          clear hB
          refine norm_ ?_ (HJ.out ((W0.drew).heap.size, (w11).heap.size) _ ⟨hHeld, hxa, hxb, (Ne.symm hne), hga, hgb⟩)
          simp only [putAll, Act.put, List.setIfInBounds_toArray, List.set_cons_zero, List.set_cons_succ]
      · refine value_ (by rfl) rfl (w1 := (World.alloc (World.alloc W0.drew (.cells zc 95)) (.cells zc 95))) (v := .pointer (some ⟨((World.alloc W0.drew (.cells zc 95))).heap.size, 0, none⟩)) (alloc_run rfl HZR.out) ?_
        have hB := below_step hHeld (below_alloc (Below.refl _ _) (.cells zc 95))
        have hgb : W0.heap.size ≤ ((World.alloc W0.drew (.cells zc 95))).heap.size := hHeld.size
        have hne : ((World.alloc W0.drew (.cells zc 95))).heap.size ≠ _ := new_ne hxa
        replace hxa := blk_below hxa (below_alloc (Below.refl _ _) (.cells zc 95))
        have hxb := blk_new ((World.alloc W0.drew (.cells zc 95))) (.cells zc 95)
        refine hK.out _ _ hB (fun _ => ?_)
        clear hK hHeld
        have hHeld := hB
        clear hB
        refine one_ (i := 1) (N := some 12) #[true, true, true, false, true, true, false, false] rfl rfl (by kernel_rfl) (by decide) (fun K hK => ?_)
        refine goes_ Try.func49 (by kernel_rfl) rfl #[.agg #[.string a.src, .string a.dst, .slice A a.arcs.length p]] (by rfl) rfl rfl (by (try simp only [List.map_toArray, List.map_cons, List.map_nil]); first | done | rfl) ?_
        refine (HTA.out _ (below_step HB0.out hHeld)).mono ?_
        rintro e2 w12 ⟨rfl, hb7⟩
        refine ⟨_, rfl, ?_⟩
        have hB := below_step hHeld hb7
        replace hxa := blk_below hxa hb7
        replace hxb := blk_below hxb hb7
        refine hK.out _ _ hB (fun _ => ?_)
        clear hK hb7 hHeld
        have hHeld := hB
        clear hB
        refine one_ (i := 3) (N := some 14) #[true, true, true, true, true, true, false, false] rfl rfl (by kernel_rfl) (by decide) (fun K hK => ?_)
        refine goes_ Try.func49 (by kernel_rfl) rfl #[.agg #[.string b.src, .string b.dst, .slice B b.arcs.length q]] (by rfl) rfl rfl (by (try simp only [List.map_toArray, List.map_cons, List.map_nil]); first | done | rfl) ?_
        refine (HTB.out _ (below_step HB0.out hHeld)).mono ?_
        rintro e2 w13 ⟨rfl, hb7⟩
        refine ⟨_, rfl, ?_⟩
        have hB := below_step hHeld hb7
        replace hxa := blk_below hxa hb7
        replace hxb := blk_below hxb hb7
        refine hK.out _ _ hB (fun _ => ?_)
        clear hK hb7 hHeld
        have hHeld := hB
        clear hB
        refine norm_ ?_ (HJ.out ((W0.drew).heap.size, ((World.alloc W0.drew (.cells zc 95))).heap.size) _ ⟨hHeld, hxa, hxb, (Ne.symm hne), hga, hgb⟩)
        simp only [putAll, Act.put, List.setIfInBounds_toArray, List.set_cons_zero, List.set_cons_succ]
    · refine value_ (by rfl) rfl (w1 := (World.alloc W0.drew (.cells zc 95))) (v := .pointer (some ⟨(W0.drew).heap.size, 0, none⟩)) (alloc_run rfl HZR.out) ?_
      have hB := below_step hHeld (below_alloc (Below.refl _ _) (.cells zc 95))
      have hgb : W0.heap.size ≤ (W0.drew).heap.size := hHeld.size
      have hxb := blk_new (W0.drew) (.cells zc 95)
      refine hK.out _ _ hB (fun _ => ?_)
      clear hK hHeld
      have hHeld := hB
      clear hB
      refine two_ (i := 1) (j := 4) (Ni := some 12) (Nj := some 5) #[true, true, true, false, false, true, false, false] #[true, false, true, false, true, true, false, false] rfl rfl rfl rfl (by kernel_rfl) (by decide) (by decide) (fun K hK => ?_) (fun K hK => ?_)
      · refine goes_ Try.func49 (by kernel_rfl) rfl #[.agg #[.string a.src, .string a.dst, .slice A a.arcs.length p]] (by rfl) rfl rfl (by (try simp only [List.map_toArray, List.map_cons, List.map_nil]); first | done | rfl) ?_
        refine (HTA.out _ (below_step HB0.out hHeld)).mono ?_
        rintro e2 w11 ⟨rfl, hb7⟩
        refine ⟨_, rfl, ?_⟩
        have hB := below_step hHeld hb7
        replace hxb := blk_below hxb hb7
        refine hK.out _ _ hB (fun _ => ?_)
        clear hK hb7 hHeld
        have hHeld := hB
        clear hB
        refine two_ (i := 3) (j := 4) (Ni := some 14) (Nj := some 5) #[true, true, true, true, false, true, false, false] #[true, true, true, false, true, true, false, false] rfl rfl rfl rfl (by kernel_rfl) (by decide) (by decide) (fun K hK => ?_) (fun K hK => ?_)
        · refine goes_ Try.func49 (by kernel_rfl) rfl #[.agg #[.string b.src, .string b.dst, .slice B b.arcs.length q]] (by rfl) rfl rfl (by (try simp only [List.map_toArray, List.map_cons, List.map_nil]); first | done | rfl) ?_
          refine (HTB.out _ (below_step HB0.out hHeld)).mono ?_
          rintro e2 w12 ⟨rfl, hb7⟩
          refine ⟨_, rfl, ?_⟩
          have hB := below_step hHeld hb7
          replace hxb := blk_below hxb hb7
          refine hK.out _ _ hB (fun _ => ?_)
          clear hK hb7 hHeld
          have hHeld := hB
          clear hB
          refine one_ (i := 4) (N := some 5) #[true, true, true, true, true, true, false, false] rfl rfl (by kernel_rfl) (by decide) (fun K hK => ?_)
          refine value_ (by rfl) rfl (w1 := (World.alloc w12 (.cells zc 95))) (v := .pointer (some ⟨(w12).heap.size, 0, none⟩)) (alloc_run rfl HZR.out) ?_
          have hB := below_step hHeld (below_alloc (Below.refl _ _) (.cells zc 95))
          have hga : W0.heap.size ≤ (w12).heap.size := hHeld.size
          have hne : (w12).heap.size ≠ _ := new_ne hxb
          replace hxb := blk_below hxb (below_alloc (Below.refl _ _) (.cells zc 95))
          have hxa := blk_new (w12) (.cells zc 95)
          refine hK.out _ _ hB (fun _ => ?_)
          clear hK hHeld
          have hHeld := hB
          clear hB
          refine norm_ ?_ (HJ.out ((w12).heap.size, (W0.drew).heap.size) _ ⟨hHeld, hxa, hxb, hne, hga, hgb⟩)
          simp only [putAll, Act.put, List.setIfInBounds_toArray, List.set_cons_zero, List.set_cons_succ]
        · refine value_ (by rfl) rfl (w1 := (World.alloc w11 (.cells zc 95))) (v := .pointer (some ⟨(w11).heap.size, 0, none⟩)) (alloc_run rfl HZR.out) ?_
          have hB := below_step hHeld (below_alloc (Below.refl _ _) (.cells zc 95))
          have hga : W0.heap.size ≤ (w11).heap.size := hHeld.size
          have hne : (w11).heap.size ≠ _ := new_ne hxb
          replace hxb := blk_below hxb (below_alloc (Below.refl _ _) (.cells zc 95))
          have hxa := blk_new (w11) (.cells zc 95)
          refine hK.out _ _ hB (fun _ => ?_)
          clear hK hHeld
          have hHeld := hB
          clear hB
          refine one_ (i := 3) (N := some 14) #[true, true, true, true, true, true, false, false] rfl rfl (by kernel_rfl) (by decide) (fun K hK => ?_)
          refine goes_ Try.func49 (by kernel_rfl) rfl #[.agg #[.string b.src, .string b.dst, .slice B b.arcs.length q]] (by rfl) rfl rfl (by (try simp only [List.map_toArray, List.map_cons, List.map_nil]); first | done | rfl) ?_
          refine (HTB.out _ (below_step HB0.out hHeld)).mono ?_
          rintro e2 w13 ⟨rfl, hb7⟩
          refine ⟨_, rfl, ?_⟩
          have hB := below_step hHeld hb7
          replace hxa := blk_below hxa hb7
          replace hxb := blk_below hxb hb7
          refine hK.out _ _ hB (fun _ => ?_)
          clear hK hb7 hHeld
          have hHeld := hB
          clear hB
          refine norm_ ?_ (HJ.out ((w11).heap.size, (W0.drew).heap.size) _ ⟨hHeld, hxa, hxb, hne, hga, hgb⟩)
          simp only [putAll, Act.put, List.setIfInBounds_toArray, List.set_cons_zero, List.set_cons_succ]
      · refine value_ (by rfl) rfl (w1 := (World.alloc (World.alloc W0.drew (.cells zc 95)) (.cells zc 95))) (v := .pointer (some ⟨((World.alloc W0.drew (.cells zc 95))).heap.size, 0, none⟩)) (alloc_run rfl HZR.out) ?_
        have hB := below_step hHeld (below_alloc (Below.refl _ _) (.cells zc 95))
        have hga : W0.heap.size ≤ ((World.alloc W0.drew (.cells zc 95))).heap.size := hHeld.size
        have hne : ((World.alloc W0.drew (.cells zc 95))).heap.size ≠ _ := new_ne hxb
        replace hxb := blk_below hxb (below_alloc (Below.refl _ _) (.cells zc 95))
        have hxa := blk_new ((World.alloc W0.drew (.cells zc 95))) (.cells zc 95)
        refine hK.out _ _ hB (fun _ => ?_)
        clear hK hHeld
        have hHeld := hB
        clear hB
        refine one_ (i := 1) (N := some 12) #[true, true, true, false, true, true, false, false] rfl rfl (by kernel_rfl) (by decide) (fun K hK => ?_)
        refine goes_ Try.func49 (by kernel_rfl) rfl #[.agg #[.string a.src, .string a.dst, .slice A a.arcs.length p]] (by rfl) rfl rfl (by (try simp only [List.map_toArray, List.map_cons, List.map_nil]); first | done | rfl) ?_
        refine (HTA.out _ (below_step HB0.out hHeld)).mono ?_
        rintro e2 w12 ⟨rfl, hb7⟩
        refine ⟨_, rfl, ?_⟩
        have hB := below_step hHeld hb7
        replace hxa := blk_below hxa hb7
        replace hxb := blk_below hxb hb7
        refine hK.out _ _ hB (fun _ => ?_)
        clear hK hb7 hHeld
        have hHeld := hB
        clear hB
        refine one_ (i := 3) (N := some 14) #[true, true, true, true, true, true, false, false] rfl rfl (by kernel_rfl) (by decide) (fun K hK => ?_)
        refine goes_ Try.func49 (by kernel_rfl) rfl #[.agg #[.string b.src, .string b.dst, .slice B b.arcs.length q]] (by rfl) rfl rfl (by (try simp only [List.map_toArray, List.map_cons, List.map_nil]); first | done | rfl) ?_
        refine (HTB.out _ (below_step HB0.out hHeld)).mono ?_
        rintro e2 w13 ⟨rfl, hb7⟩
        refine ⟨_, rfl, ?_⟩
        have hB := below_step hHeld hb7
        replace hxa := blk_below hxa hb7
        replace hxb := blk_below hxb hb7
        refine hK.out _ _ hB (fun _ => ?_)
        clear hK hb7 hHeld
        have hHeld := hB
        clear hB
        refine norm_ ?_ (HJ.out (((World.alloc W0.drew (.cells zc 95))).heap.size, (W0.drew).heap.size) _ ⟨hHeld, hxa, hxb, hne, hga, hgb⟩)
        simp only [putAll, Act.put, List.setIfInBounds_toArray, List.set_cons_zero, List.set_cons_succ]
  case cont =>
    rintro ⟨xa, xb⟩ w5 ⟨hb, hxa, hxb, hne, hga, hgb⟩
    dsimp only at hxa hxb hne hga hgb
    clear hHeld
    refine norm_ (a' := ?_) ?_ ?_
    rotate_left
    · simp only [putAll, Act.put, List.setIfInBounds_toArray, List.set_cons_zero, List.set_cons_succ]
      rfl
    refine last_ (i := 6) (N := none) #[true, true, true, true, true, true, true, false] rfl rfl (by kernel_rfl) (by decide) (fun K hK => ?_)
    refine skip_ (by rfl) rfl (store_run (ty := 95) (x := .tmp 5) (v := .tmp 12) rfl rfl xa 95 zc (cI ta) (by rfl) (by rfl) hxa (by rw [HSA.out]; kernel_rfl) (HZS.out.trans HSA.out.symm) (cI_one ta)) ?_
    have HB6 := Aside0.mk (row_step2 (cs := cI ta) hb hga)
    have HX6 := Aside0.mk (setRow_at w5 xa (cI ta) zc 95 hxa)
    have HY6 := Aside0.mk (row_other (cs := cI ta) hxb hne.symm)
    refine hK.out _ _ ?_
    clear hK K hb hxa hxb
    generalize w5.setRow xa (cI ta) = w6 at HB6 HX6 HY6 ⊢
    refine last_ (i := 7) (N := none) #[true, true, true, true, true, true, true, true] rfl rfl (by kernel_rfl) (by decide) (fun K hK => ?_)
    refine skip_ (by rfl) rfl (store_run (ty := 95) (x := .tmp 6) (v := .tmp 14) rfl rfl xb 95 zc (cI tb) (by rfl) (by rfl) HY6.out (by rw [HSB.out]; kernel_rfl) (HZS.out.trans HSB.out.symm) (cI_one tb)) ?_
    have HB7 := Aside0.mk (row_step2 (cs := cI tb) HB6.out hgb)
    have HY7 := Aside0.mk (setRow_at w6 xb (cI tb) zc 95 HY6.out)
    have HX7 := Aside0.mk (row_other (cs := cI tb) HX6.out hne)
    refine hK.out _ _ ?_
    clear hK K
    generalize w6.setRow xb (cI tb) = w7 at HB7 HX7 HY7 ⊢
    refine done_ (by kernel_rfl) ?_
    go_wp2_with ((with_reducible refine gate_alloc (t := 95) rfl ?_); refine alloc_zero rfl rfl zc HZR.out ?_)
    have T0 : Aside0 (Rc w (w7.alloc (.cells zc 95)) a b A B p q (w.heap.size + 1 + 1) xa xb w7.heap.size ta tb zeros) := ⟨by
      have s7 := HB7.out
      have z7 := s7.size
      have e0 := HSZ.out
      have lx := (Array.getElem?_eq_some_iff.1 HX7.out).1
      have ly := (Array.getElem?_eq_some_iff.1 HY7.out).1
      have sa := below_alloc (Below.refl w7.heap.size w7) (.cells zc 95)
      refine ⟨below_step (below_step HB0.out s7) sa, (HCA.out.go s7).go sa, (HCB.out.go s7).go sa, blk_below (blk_below HZ.out s7) sa, blk_below HX7.out sa, blk_below HY7.out sa, ?_, ⟨by omega, by omega⟩, ⟨by omega, by omega, by omega⟩⟩
      rw [← HZC.out]
      exact blk_new w7 _⟩
    clear HB7 HX7 HY7 HB6 HX6 HY6 hne hga hgb HB0 HCA HCB HZ HSZ
    generalize w7.alloc (.cells zc 95) = W8 at T0 ⊢
    generalize w7.heap.size = tbk at T0 ⊢
    have HAX := Aside0.mk (fun i j (hi : i < 6) (hj : j < 6) => cI_at HLA.out hi hj)
    have HAY := Aside0.mk (fun i j (hi : i < 6) (hj : j < 6) => cI_at HLB.out hi hj)
    have HM3 := Aside0.mk (fun x y z W => max3_int64 x y z W)
    go_loopg [8] 6 (fun kq v8 w' => ∃ (i : Nat) (t : List Int), v8 = .int .i64 (i : Int) ∧ Aside0 (kq + i = 6) ∧ Aside0 (Rc w w' a b A B p q (w.heap.size + 1 + 1) xa xb tbk ta tb t) ∧ Aside0 (St ta tb (6 * i) 0 t))
    case atStart => exact ⟨0, zeros, rfl, ⟨rfl⟩, T0, ⟨St.start ta tb⟩⟩
    case round =>
      clear T0
      obtain ⟨i, t, rfl, HK, T1, HS⟩ := hrel
      by_cases hlt : i < 6
      · have hdx : decide ((i : Int) < 6) = true := decide_eq_true (by omega)
        have hib : wrap64 ((i : Int) + 1) = (i : Int) + 1 := by unfold wrap64; omega
        have b1 : (i : Int) < 6 := by omega
        have b3 : (0 : Int) ≤ (i : Int) := by omega
        have HLI := Aside0.mk hlt
        go_wp2
        clear hdx
        go_loopg [9] 6 (fun kq2 v9 w' => ∃ (k : Nat) (t : List Int), v9 = .int .i64 (k : Int) ∧ Aside0 (kq2 + k = 6) ∧ Aside0 (Rc w w' a b A B p q (w.heap.size + 1 + 1) xa xb tbk ta tb t) ∧ Aside0 (St ta tb (6 * i + k) 0 t))
        case atStart => exact ⟨0, t, rfl, ⟨rfl⟩, T1, HS⟩
        case round =>
          clear T1 HS t
          obtain ⟨k, t, rfl, HK2, T1, HS⟩ := hrel
          by_cases hlt2 : k < 6
          · have hdx : decide ((k : Int) < 6) = true := decide_eq_true (by omega)
            have hib2 : wrap64 ((k : Int) + 1) = (k : Int) + 1 := by unfold wrap64; omega
            have b2 : (k : Int) < 6 := by omega
            have b4 : (0 : Int) ≤ (k : Int) := by omega
            have HLK := Aside0.mk hlt2
            go_wp2
            clear hdx
            go_loopg [10] 6 (fun kq3 v10 w' => ∃ (j : Nat) (t : List Int), v10 = .int .i64 (j : Int) ∧ Aside0 (kq3 + j = 6) ∧ Aside0 (Rc w w' a b A B p q (w.heap.size + 1 + 1) xa xb tbk ta tb t) ∧ Aside0 (St ta tb (6 * i + k) j t))
            case atStart => exact ⟨0, t, rfl, ⟨rfl⟩, T1, HS⟩
            case round =>
              clear T1 HS t
              obtain ⟨j, t, rfl, HK3, T1, HS⟩ := hrel
              by_cases hlt3 : j < 6
              · have hdx : decide ((j : Int) < 6) = true := decide_eq_true (by omega)
                have hib3 : wrap64 ((j : Int) + 1) = (j : Int) + 1 := by unfold wrap64; omega
                have b5 : (j : Int) < 6 := by omega
                have b6 : (0 : Int) ≤ (j : Int) := by omega
                have HLJ := Aside0.mk hlt3
                have HZX := Aside0.mk (HAX.out i j hlt hlt3)
                have HZY := Aside0.mk (HAY.out j k hlt3 hlt2)
                have HZT := Aside0.mk (cI_at HS.out.len hlt hlt2)
                have HX1 := Aside0.mk T1.out.x
                have HY1 := Aside0.mk T1.out.y
                have HT1 := Aside0.mk T1.out.t
                have zx := blk_at HX1.out HZX.out
                have zy := blk_at HY1.out HZY.out
                by_cases hp : 0 < tat ta i j
                · by_cases hq : 0 < tat tb j k
                  · have HSY := Aside0.mk (HS.out.yes hlt hlt2 hp hq)
                    have HST := Aside0.mk (fun (v : Int) => T1.out.set i k v)
                    generalize tat ta i j = mx at zx HZX HSY hp
                    generalize tat tb j k = my at zy HZY HSY hq
                    generalize tat t i k = mz at HZT HSY
                    have d1 : decide ((0 : Int) < mx) = true := decide_eq_true hp
                    have d2 : decide ((0 : Int) < my) = true := decide_eq_true hq
                    clear hp hq
                    go_wp2
                    clear zx zy d1 d2 hdx
                    have hmx := HM3.out mz mx my
                    refine start_ (n := 21) (S := fun w' => Below wr.heap.size wr w') (ds := [20]) #[false, false, false, false, false, false, false, false, false, false, false, false, false, false, false, false, false, false, false, false, false] (by kernel_rfl) rfl rfl (below_drew1 (Below.refl _ _)) (fun hHeld => ?_)
                    refine pure_ (i := 0) (N := some 41) (v := ?_) (a' := ?_) #[true, false, false, false, false, false, false, false, false, false, false, false, false, false, false, false, false, false, false, false, false] rfl rfl (by kernel_rfl) (fun _ _ _ h => h) (Or.inl ⟨by rfl, ?_⟩) ?_ ?_
                    rotate_left
                    · intro w'
                      go_simp
                      with_reducible rfl
                    rotate_left
                    · simp only [Act.put, List.setIfInBounds_toArray, List.set_cons_zero, List.set_cons_succ, i64_w, i32_w]
                      rfl
                    refine pure_ (i := 1) (N := some 42) (v := ?_) (a' := ?_) #[true, true, false, false, false, false, false, false, false, false, false, false, false, false, false, false, false, false, false, false, false] rfl rfl (by kernel_rfl) (fun _ _ _ h => h) (Or.inl ⟨by rfl, ?_⟩) ?_ ?_
                    rotate_left
                    · intro w'
                      go_simp
                      with_reducible rfl
                    rotate_left
                    · simp only [Act.put, List.setIfInBounds_toArray, List.set_cons_zero, List.set_cons_succ, i64_w, i32_w]
                      rfl
                    refine pure_ (i := 2) (N := some 43) (v := ?_) (a' := ?_) #[true, true, true, false, false, false, false, false, false, false, false, false, false, false, false, false, false, false, false, false, false] rfl rfl (by kernel_rfl) (fun _ _ _ h => h) (Or.inl ⟨by rfl, ?_⟩) ?_ ?_
                    rotate_left
                    · intro w'
                      go_simp
                      with_reducible rfl
                    rotate_left
                    · simp only [Act.put, List.setIfInBounds_toArray, List.set_cons_zero, List.set_cons_succ, i64_w, i32_w]
                      rfl
                    refine pure_ (i := 3) (N := some 44) (v := ?_) (a' := ?_) #[true, true, true, true, false, false, false, false, false, false, false, false, false, false, false, false, false, false, false, false, false] rfl rfl (by kernel_rfl) (fun _ _ _ h => h) (Or.inl ⟨by rfl, ?_⟩) ?_ ?_
                    rotate_left
                    · intro w'
                      go_simp
                      with_reducible rfl
                    rotate_left
                    · simp only [Act.put, List.setIfInBounds_toArray, List.set_cons_zero, List.set_cons_succ, i64_w, i32_w]
                      rfl
                    refine pure_ (i := 4) (N := some 45) (v := ?_) (a' := ?_) #[true, true, true, true, true, false, false, false, false, false, false, false, false, false, false, false, false, false, false, false, false] rfl rfl (by kernel_rfl) (fun _ _ _ h => h) (Or.inl ⟨by rfl, ?_⟩) ?_ ?_
                    rotate_left
                    · intro w'
                      go_simp
                      with_reducible rfl
                    rotate_left
                    · simp only [Act.put, List.setIfInBounds_toArray, List.set_cons_zero, List.set_cons_succ, i64_w, i32_w]
                      rfl
                    refine pure_ (i := 5) (N := some 46) (v := ?_) (a' := ?_) #[true, true, true, true, true, true, false, false, false, false, false, false, false, false, false, false, false, false, false, false, false] rfl rfl (by kernel_rfl) (fun _ _ _ h => h) (Or.inl ⟨by rfl, ?_⟩) ?_ ?_
                    rotate_left
                    · intro w'
                      go_simp
                      with_reducible rfl
                    rotate_left
                    · simp only [Act.put, List.setIfInBounds_toArray, List.set_cons_zero, List.set_cons_succ, i64_w, i32_w]
                      rfl
                    refine take_ (i := 6) (N := some 47) (v := ?_) (a' := ?_) #[true, true, true, true, true, true, true, false, false, false, false, false, false, false, false, false, false, false, false, false, false] rfl rfl (by kernel_rfl) (fun _ _ _ h => h) (Or.inl ⟨by rfl, ?_⟩) hHeld ?_ ?_
                    rotate_left
                    · rintro w' s0
                      have z0 := blk_at (blk_below HT1.out s0) HZT.out
                      go_simp
                      with_reducible rfl
                    rotate_left
                    · simp only [Act.put, List.setIfInBounds_toArray, List.set_cons_zero, List.set_cons_succ, i64_w, i32_w]
                      rfl
                    refine pure_ (i := 7) (N := some 48) (v := ?_) (a' := ?_) #[true, true, true, true, true, true, true, true, false, false, false, false, false, false, false, false, false, false, false, false, false] rfl rfl (by kernel_rfl) (fun _ _ _ h => h) (Or.inl ⟨by rfl, ?_⟩) ?_ ?_
                    rotate_left
                    · intro w'
                      go_simp
                      with_reducible rfl
                    rotate_left
                    · simp only [Act.put, List.setIfInBounds_toArray, List.set_cons_zero, List.set_cons_succ, i64_w, i32_w]
                      rfl
                    refine pure_ (i := 8) (N := some 49) (v := ?_) (a' := ?_) #[true, true, true, true, true, true, true, true, true, false, false, false, false, false, false, false, false, false, false, false, false] rfl rfl (by kernel_rfl) (fun _ _ _ h => h) (Or.inl ⟨by rfl, ?_⟩) ?_ ?_
                    rotate_left
                    · intro w'
                      go_simp
                      with_reducible rfl
                    rotate_left
                    · simp only [Act.put, List.setIfInBounds_toArray, List.set_cons_zero, List.set_cons_succ, i64_w, i32_w]
                      rfl
                    refine pure_ (i := 9) (N := some 50) (v := ?_) (a' := ?_) #[true, true, true, true, true, true, true, true, true, true, false, false, false, false, false, false, false, false, false, false, false] rfl rfl (by kernel_rfl) (fun _ _ _ h => h) (Or.inl ⟨by rfl, ?_⟩) ?_ ?_
                    rotate_left
                    · intro w'
                      go_simp
                      with_reducible rfl
                    rotate_left
                    · simp only [Act.put, List.setIfInBounds_toArray, List.set_cons_zero, List.set_cons_succ, i64_w, i32_w]
                      rfl
                    refine pure_ (i := 10) (N := some 51) (v := ?_) (a' := ?_) #[true, true, true, true, true, true, true, true, true, true, true, false, false, false, false, false, false, false, false, false, false] rfl rfl (by kernel_rfl) (fun _ _ _ h => h) (Or.inl ⟨by rfl, ?_⟩) ?_ ?_
                    rotate_left
                    · intro w'
                      go_simp
                      with_reducible rfl
                    rotate_left
                    · simp only [Act.put, List.setIfInBounds_toArray, List.set_cons_zero, List.set_cons_succ, i64_w, i32_w]
                      rfl
                    refine take_ (i := 11) (N := some 52) (v := ?_) (a' := ?_) #[true, true, true, true, true, true, true, true, true, true, true, true, false, false, false, false, false, false, false, false, false] rfl rfl (by kernel_rfl) (fun _ _ _ h => h) (Or.inl ⟨by rfl, ?_⟩) hHeld ?_ ?_
                    rotate_left
                    · rintro w' s0
                      have z0 := blk_at (blk_below HX1.out s0) HZX.out
                      go_simp
                      with_reducible rfl
                    rotate_left
                    · simp only [Act.put, List.setIfInBounds_toArray, List.set_cons_zero, List.set_cons_succ, i64_w, i32_w]
                      rfl
                    refine pure_ (i := 12) (N := some 53) (v := ?_) (a' := ?_) #[true, true, true, true, true, true, true, true, true, true, true, true, true, false, false, false, false, false, false, false, false] rfl rfl (by kernel_rfl) (fun _ _ _ h => h) (Or.inl ⟨by rfl, ?_⟩) ?_ ?_
                    rotate_left
                    · intro w'
                      go_simp
                      with_reducible rfl
                    rotate_left
                    · simp only [Act.put, List.setIfInBounds_toArray, List.set_cons_zero, List.set_cons_succ, i64_w, i32_w]
                      rfl
                    refine pure_ (i := 13) (N := some 54) (v := ?_) (a' := ?_) #[true, true, true, true, true, true, true, true, true, true, true, true, true, true, false, false, false, false, false, false, false] rfl rfl (by kernel_rfl) (fun _ _ _ h => h) (Or.inl ⟨by rfl, ?_⟩) ?_ ?_
                    rotate_left
                    · intro w'
                      go_simp
                      with_reducible rfl
                    rotate_left
                    · simp only [Act.put, List.setIfInBounds_toArray, List.set_cons_zero, List.set_cons_succ, i64_w, i32_w]
                      rfl
                    refine pure_ (i := 14) (N := some 55) (v := ?_) (a' := ?_) #[true, true, true, true, true, true, true, true, true, true, true, true, true, true, true, false, false, false, false, false, false] rfl rfl (by kernel_rfl) (fun _ _ _ h => h) (Or.inl ⟨by rfl, ?_⟩) ?_ ?_
                    rotate_left
                    · intro w'
                      go_simp
                      with_reducible rfl
                    rotate_left
                    · simp only [Act.put, List.setIfInBounds_toArray, List.set_cons_zero, List.set_cons_succ, i64_w, i32_w]
                      rfl
                    refine pure_ (i := 15) (N := some 56) (v := ?_) (a' := ?_) #[true, true, true, true, true, true, true, true, true, true, true, true, true, true, true, true, false, false, false, false, false] rfl rfl (by kernel_rfl) (fun _ _ _ h => h) (Or.inl ⟨by rfl, ?_⟩) ?_ ?_
                    rotate_left
                    · intro w'
                      go_simp
                      with_reducible rfl
                    rotate_left
                    · simp only [Act.put, List.setIfInBounds_toArray, List.set_cons_zero, List.set_cons_succ, i64_w, i32_w]
                      rfl
                    refine take_ (i := 16) (N := some 57) (v := ?_) (a' := ?_) #[true, true, true, true, true, true, true, true, true, true, true, true, true, true, true, true, true, false, false, false, false] rfl rfl (by kernel_rfl) (fun _ _ _ h => h) (Or.inl ⟨by rfl, ?_⟩) hHeld ?_ ?_
                    rotate_left
                    · rintro w' s0
                      have z0 := blk_at (blk_below HY1.out s0) HZY.out
                      go_simp
                      with_reducible rfl
                    rotate_left
                    · simp only [Act.put, List.setIfInBounds_toArray, List.set_cons_zero, List.set_cons_succ, i64_w, i32_w]
                      rfl
                    refine pure_ (i := 17) (N := some 58) (v := ?_) (a' := ?_) #[true, true, true, true, true, true, true, true, true, true, true, true, true, true, true, true, true, true, false, false, false] rfl rfl (by kernel_rfl) (fun _ _ _ h => h) (Or.inl ⟨by rfl, ?_⟩) ?_ ?_
                    rotate_left
                    · intro w'
                      go_simp
                      with_reducible rfl
                    rotate_left
                    · simp only [Act.put, List.setIfInBounds_toArray, List.set_cons_zero, List.set_cons_succ, i64_w, i32_w]
                      rfl
                    refine pure_ (i := 18) (N := some 59) (v := ?_) (a' := ?_) #[true, true, true, true, true, true, true, true, true, true, true, true, true, true, true, true, true, true, true, false, false] rfl rfl (by kernel_rfl) (fun _ _ _ h => h) (Or.inl ⟨by rfl, ?_⟩) ?_ ?_
                    rotate_left
                    · intro w'
                      go_simp
                      with_reducible rfl
                    rotate_left
                    · simp only [Act.put, List.setIfInBounds_toArray, List.set_cons_zero, List.set_cons_succ, i64_w, i32_w]
                      rfl
                    refine pure_ (i := 19) (N := some 60) (v := ?_) (a' := ?_) #[true, true, true, true, true, true, true, true, true, true, true, true, true, true, true, true, true, true, true, true, false] rfl rfl (by kernel_rfl) (fun _ _ _ h => h) (Or.inl ⟨by rfl, ?_⟩) ?_ ?_
                    rotate_left
                    · intro w'
                      go_simp
                      with_reducible rfl
                    rotate_left
                    · simp only [Act.put, List.setIfInBounds_toArray, List.set_cons_zero, List.set_cons_succ, i64_w, i32_w]
                      rfl
                    refine last_ (i := 20) (N := none) #[true, true, true, true, true, true, true, true, true, true, true, true, true, true, true, true, true, true, true, true, true] rfl rfl (by kernel_rfl) (by decide) (fun K hK => ?_)
                    have z2 := blk_at (blk_below HT1.out hHeld) HZT.out
                    have z1 := blk_frozen (blk_below HT1.out hHeld) (i * 6 + k)
                    refine skip_ (by rfl) rfl (w1 := (World.drew wr).setCell ⟨tbk, i * 6 + k, none⟩ (.int .i64 (max (max mz mx) my))) (by go_simp) ?_
                    refine hK.out _ _ ?_
                    clear hK K z1 z2 hHeld
                    refine done_ (by kernel_rfl) ?_
                    clear hmx
                    have HSY2 := Aside0.mk (show St ta tb (6 * i + k) (j + 1) (t.set (6 * i + k) (max mz (max mx my))) from by rw [← Int.max_assoc]; exact HSY.out)
                    go_wp2
                    go_roundg (6 - j - 1)
                    case measure => have := HK3.out; omega
                    case rel => exact ⟨j + 1, _, by go_num, ⟨by have := HK3.out; have := HLJ.out; omega⟩, ⟨(T1.out.go (below_drew1 (Below.refl _ _))).set i k _⟩, HSY2⟩
                  · have HSN := Aside0.mk (HS.out.no hlt2 (fun h => hq h.2))
                    have d1 : decide ((0 : Int) < tat ta i j) = true := decide_eq_true hp
                    have d2 : decide ((0 : Int) < tat tb j k) = false := decide_eq_false hq
                    clear hp hq
                    go_wp2
                    go_roundg (6 - j - 1)
                    case measure => have := HK3.out; omega
                    case rel => exact ⟨j + 1, t, by go_num, ⟨by have := HK3.out; have := HLJ.out; omega⟩, T1, HSN⟩
                · have HSN := Aside0.mk (HS.out.no hlt2 (fun h => hp h.1))
                  have d1 : decide ((0 : Int) < tat ta i j) = false := decide_eq_false hp
                  clear hp
                  go_wp2
                  go_roundg (6 - j - 1)
                  case measure => have := HK3.out; omega
                  case rel => exact ⟨j + 1, t, by go_num, ⟨by have := HK3.out; have := HLJ.out; omega⟩, T1, HSN⟩
              · have hdx : decide ((j : Int) < 6) = false := decide_eq_false (by omega)
                have hj6 : j = 6 := by have := HK3.out; omega
                subst hj6
                clear HK3
                go_wp2
                go_roundg (6 - k - 1)
                case measure => have := HK2.out; omega
                case rel => exact ⟨k + 1, t, by go_num, ⟨by have := HK2.out; have := HLK.out; omega⟩, T1, ⟨HS.out.next⟩⟩
          · have hdx : decide ((k : Int) < 6) = false := decide_eq_false (by omega)
            have hk6 : k = 6 := by have := HK2.out; omega
            subst hk6
            clear HK2
            go_wp2
            go_roundg (6 - i - 1)
            case measure => have := HK.out; omega
            case rel => exact ⟨i + 1, t, by go_num, ⟨by have := HK.out; have := HLI.out; omega⟩, T1, ⟨by have := HS.out; rw [show 6 * (i + 1) = 6 * i + 6 by omega]; exact this⟩⟩
      · have hdx : decide ((i : Int) < 6) = false := decide_eq_false (by omega)
        have hi6 : i = 6 := by have := HK.out; omega
        subst hi6
        have HFI := Aside0.mk (show t = comp ta tb from HS.out.fin)
        have HTL := Aside0.mk HS.out.len
        have HTS := Aside0.mk (cI_size HS.out.len)
        obtain ⟨y0, _, _⟩ := Blk.cells T1.out.a
        obtain ⟨_, y1, _⟩ := Blk.cells T1.out.b
        have HCD := Aside0.mk (fun W => called_calls a.src b.dst t HTL.out W)
        have HT1 := Aside0.mk T1.out.t
        have HR1 := Aside0.mk T1.out.r
        have HBW := Aside0.mk T1.out.below
        clear HK HS
        generalize cI t = ct at HTS HCD HT1
        go_wp2_with (first | ((with_reducible refine gate_load (t := 95) (x := .tmp 7) rfl ?_); refine load_whole rfl rfl tbk 95 ct _ (by rfl) HT1.out Try.underlying95 rfl (by rw [HTS.out]; kernel_rfl) ?_) | (go_at_call 71; refine (HCD.out _).mono ?_; rintro e w9 ⟨v9, rfl, hr9, hb9⟩; obtain ⟨A4, c4, ev4⟩ := Kd.R_slice hr9; subst ev4; have HB9 := Aside0.mk hb9; have HR9 := Aside0.mk (Kd.R_lower hr9 HBW.out.size); clear hb9 hr9) | ((with_reducible refine gate_store (t := 34) (p := 4) rfl ?_); refine store_whole rfl rfl rfl (w.heap.size + 1 + 1) 34 _ #[.string a.src, .string b.dst, .slice A4 (arcsN t 36).length c4] (by rfl) (by rfl) (blk_below HR1.out HB9.out) (by kernel_rfl) rfl (by simp [Value.oneCell']) ?_))
        refine bodyPost_ret (v := .agg #[.string a.src, .string b.dst, .slice A4 (arcsN t 36).length c4]) (results_cell1 rfl _ (by rfl) (setRow_at _ (w.heap.size + 1 + 1) #[.string a.src, .string b.dst, .slice A4 (arcsN t 36).length c4] _ 34 (blk_below HR1.out HB9.out)) rfl Try.underlying34 (by kernel_rfl)) rfl ?_
        exact ⟨_, rfl, by rw [← HFI.out]; exact ⟨_, rfl, R_row HR9.out (blk_below HR1.out HB9.out) (by decide) _⟩, row_step HBW.out HB9.out (by omega)⟩
end Go.Proofs.Ytiepinfcndefhaa.S
