/- The reference's Compose, and the law SizesComposes: the walks. No condition. -/
import Derived.Test.YtiepinfcndefhaaUd
namespace Go.Proofs.Ytiepinfcndefhaa.S
open Go.RowKit Go.Proofs.YtiepinfcndefhaaW.PrintWords Go.Proofs.YtiepinfcndefhaaW.PrintLast Go.Proofs.YtiepinfcndefhaaW.PrintMore
set_option linter.unusedVariables false
set_option linter.unusedSimpArgs false

theorem compF_val (a b : Cl) : compF a b = if valC a = true ∧ valC b = true ∧ a.dst = b.src then (callG ⟨a.src, b.dst, comp (tabC a.arcs) (tabC b.arcs)⟩, 0) else (dfC, 4) := by
  unfold compF
  rw [readC_val, readC_val]
  cases valC a with
  | false => rfl
  | true =>
    cases valC b with
    | false => rfl
    | true =>
      by_cases h : a.dst = b.src
      · simp [h, thenG]
      · simp [h]
theorem arcs_ok {c : Cl} (h : valC c = true) : c.arcs.all okA = true := by
  simp only [valC, Bool.and_eq_true] at h
  exact h.2
set_option maxHeartbeats 4000000 in
set_option maxRecDepth 100000 in
theorem rcomp_calls (A B : Option Addr) (p q : Nat) (a b : Cl) (w : World) (ha : kAc.C w A a.arcs.length a.arcs) (hb : kAc.C w B b.arcs.length b.arcs) :
    Calls Try.prog 25 #[.agg #[.string a.src, .string a.dst, .slice A a.arcs.length p], .agg #[.string b.src, .string b.dst, .slice B b.arcs.length q]] w fun e w' => ∃ v, e = .returned (.tuple #[v, .int .i64 (compF a b).2]) ∧ CallOut w' w.heap.size (compF a b).1 v ∧ Below w.heap.size w w' := by
  have HVA := Aside0.mk (fun (W : World) (h : Below w.heap.size w W) => valid_calls A p a W (Kd.C_below ha h))
  have HVB := Aside0.mk (fun (W : World) (h : Below w.heap.size w W) => valid_calls B q b W (Kd.C_below hb h))
  have HF := compF_val a b
  have st : ∀ (W : World) (o : Obj), Below W.heap.size W (W.alloc o) := fun W o => below_alloc (Below.refl _ _) o
  have HB0 : Aside0 (Below w.heap.size w (((w.alloc (.cells #[.string a.src, .string a.dst, .slice A a.arcs.length p] 34)).alloc (.cells #[.string b.src, .string b.dst, .slice B b.arcs.length q] 34)).alloc (.cells #[.string ⟨#[]⟩, .string ⟨#[]⟩, .slice none 0 0] 34))) := ⟨below_step (below_step (st _ _) (st _ _)) (st _ _)⟩
  have HCA : Aside0 (Blk (((w.alloc (.cells #[.string a.src, .string a.dst, .slice A a.arcs.length p] 34)).alloc (.cells #[.string b.src, .string b.dst, .slice B b.arcs.length q] 34)).alloc (.cells #[.string ⟨#[]⟩, .string ⟨#[]⟩, .slice none 0 0] 34)) w.heap.size a A p) := ⟨blk_below (blk_below (blk_new w _) (st _ _)) (st _ _)⟩
  have HCB : Aside0 (Blk (((w.alloc (.cells #[.string a.src, .string a.dst, .slice A a.arcs.length p] 34)).alloc (.cells #[.string b.src, .string b.dst, .slice B b.arcs.length q] 34)).alloc (.cells #[.string ⟨#[]⟩, .string ⟨#[]⟩, .slice none 0 0] 34)) (w.heap.size + 1) b B q) := ⟨by
    have h1 := blk_new (w.alloc (.cells #[.string a.src, .string a.dst, .slice A a.arcs.length p] 34)) (.cells #[.string b.src, .string b.dst, .slice B b.arcs.length q] 34)
    rw [World.size_alloc] at h1
    exact blk_below h1 (st _ _)⟩
  have HZ : Aside0 ((((w.alloc (.cells #[.string a.src, .string a.dst, .slice A a.arcs.length p] 34)).alloc (.cells #[.string b.src, .string b.dst, .slice B b.arcs.length q] 34)).alloc (.cells #[.string ⟨#[]⟩, .string ⟨#[]⟩, .slice none 0 0] 34)).heap[w.heap.size + 1 + 1]? = some (.cells #[.string ⟨#[]⟩, .string ⟨#[]⟩, .slice none 0 0] 34 (0, 0))) := ⟨by
    have h1 := blk_new ((w.alloc (.cells #[.string a.src, .string a.dst, .slice A a.arcs.length p] 34)).alloc (.cells #[.string b.src, .string b.dst, .slice B b.arcs.length q] 34)) (.cells #[.string ⟨#[]⟩, .string ⟨#[]⟩, .slice none 0 0] 34)
    rw [World.size_alloc, World.size_alloc] at h1
    exact h1⟩
  clear st
  cases hva : valC a with
  | false =>
    have HR := Aside0.mk (HF.trans (if_neg (by simp [hva])))
    rw [hva] at HVA
    clear HF hva ha hb
    go_enter Try.func25, Try.ntmps25
    go_wp2_with (first | (go_at_call 48; refine (HVA.out _ HB0.out).mono ?_; rintro e w1 ⟨rfl, hb1⟩; have HB1 := Aside0.mk hb1; clear HVA; obtain ⟨y0, y1, y2⟩ := Blk.cells (HCB.out.go hb1); obtain ⟨x0, x1, x2⟩ := Blk.cells (HCA.out.go hb1); clear hb1) | ((with_reducible refine gate_store (t := 34) (p := 4) rfl ?_); refine store_whole rfl rfl rfl (w.heap.size + 1 + 1) 34 _ #[.string ⟨#[]⟩, .string ⟨#[]⟩, .slice none 0 0] (by rfl) (by rfl) (blk_below HZ.out HB1.out) (by kernel_rfl) rfl (by simp [Value.oneCell']) ?_))
    refine bodyPost_ret (v := .tuple #[.agg #[.string ⟨#[]⟩, .string ⟨#[]⟩, .slice none 0 0], .int .i64 4]) (results_cell2 rfl _ (by rfl) (setRow_at _ (w.heap.size + 1 + 1) #[.string ⟨#[]⟩, .string ⟨#[]⟩, .slice none 0 0] _ 34 (blk_below HZ.out HB1.out)) rfl Try.underlying34 (by kernel_rfl) (by rfl)) rfl ?_
    exact ⟨_, by rw [HR.out], by rw [HR.out]; exact ⟨_, rfl, Kd.R_nil _ _ _ _ _⟩, row_step HB0.out HB1.out (by omega)⟩
  | true =>
    rw [hva] at HVA
    cases hvb : valC b with
    | false =>
      have HR := Aside0.mk (HF.trans (if_neg (by simp [hvb])))
      rw [hvb] at HVB
      clear HF hva hvb ha hb
      go_enter Try.func25, Try.ntmps25
      go_wp2_with (first | (go_at_call 48; refine (HVA.out _ HB0.out).mono ?_; rintro e w1 ⟨rfl, hb1⟩; have HB1 := Aside0.mk hb1; clear HVA; obtain ⟨y0, y1, y2⟩ := Blk.cells (HCB.out.go hb1); obtain ⟨x0, x1, x2⟩ := Blk.cells (HCA.out.go hb1); clear hb1) | (go_at_call 48; refine (HVB.out _ (below_step HB0.out HB1.out)).mono ?_; rintro e w2 ⟨rfl, hb2⟩; have HB2 := Aside0.mk (below_step HB1.out hb2); clear HVB y0 y1 y2 x0 x1 x2; obtain ⟨y0, y1, y2⟩ := Blk.cells (HCB.out.go HB2.out); obtain ⟨x0, x1, x2⟩ := Blk.cells (HCA.out.go HB2.out); clear hb2) | ((with_reducible refine gate_store (t := 34) (p := 4) rfl ?_); refine store_whole rfl rfl rfl (w.heap.size + 1 + 1) 34 _ #[.string ⟨#[]⟩, .string ⟨#[]⟩, .slice none 0 0] (by rfl) (by rfl) (blk_below HZ.out HB2.out) (by kernel_rfl) rfl (by simp [Value.oneCell']) ?_))
      refine bodyPost_ret (v := .tuple #[.agg #[.string ⟨#[]⟩, .string ⟨#[]⟩, .slice none 0 0], .int .i64 4]) (results_cell2 rfl _ (by rfl) (setRow_at _ (w.heap.size + 1 + 1) #[.string ⟨#[]⟩, .string ⟨#[]⟩, .slice none 0 0] _ 34 (blk_below HZ.out HB2.out)) rfl Try.underlying34 (by kernel_rfl) (by rfl)) rfl ?_
      exact ⟨_, by rw [HR.out], by rw [HR.out]; exact ⟨_, rfl, Kd.R_nil _ _ _ _ _⟩, row_step HB0.out HB2.out (by omega)⟩
    | true =>
      rw [hvb] at HVB
      by_cases he : a.dst = b.src
      · have HR := Aside0.mk (HF.trans (if_pos ⟨hva, hvb, he⟩))
        have HCO := Aside0.mk (fun (W : World) (h : Below w.heap.size w W) => compose_calls A B p q a b W (Kd.C_below ha h) (Kd.C_below hb h) (arcs_ok hva) (arcs_ok hvb))
        have e2 : (a.dst.toList == b.src.toList) = true := by rw [he]; exact beq_self_eq_true _
        have e1 : (a.dst == b.src) = true := (beq_toListBytes _ _).trans e2
        have n1 : (a.dst != b.src) = false := by rw [bne, e1]; rfl
        clear HF hva hvb ha hb he
        go_enter Try.func25, Try.ntmps25
        go_wp2_with (first | (go_at_call 48; refine (HVA.out _ HB0.out).mono ?_; rintro e w1 ⟨rfl, hb1⟩; have HB1 := Aside0.mk hb1; clear HVA; obtain ⟨y0, y1, y2⟩ := Blk.cells (HCB.out.go hb1); obtain ⟨x0, x1, x2⟩ := Blk.cells (HCA.out.go hb1); clear hb1) | (go_at_call 48; refine (HVB.out _ (below_step HB0.out HB1.out)).mono ?_; rintro e w2 ⟨rfl, hb2⟩; have HB2 := Aside0.mk (below_step HB1.out hb2); clear HVB y0 y1 y2 x0 x1 x2; obtain ⟨y0, y1, y2⟩ := Blk.cells (HCB.out.go HB2.out); obtain ⟨x0, x1, x2⟩ := Blk.cells (HCA.out.go HB2.out); clear hb2) | (go_at_call 44; refine (HCO.out _ (below_step HB0.out HB2.out)).mono ?_; rintro e w3 ⟨v3, rfl, ⟨u3, rfl, hr3⟩, hb3⟩; obtain ⟨A4, c4, ev4⟩ := Kd.R_slice hr3; subst ev4; have HB3 := Aside0.mk (below_step HB2.out hb3); have HR4 := Aside0.mk (Kd.R_lower hr3 (below_step HB0.out HB2.out).size); clear hb3 hr3) | ((with_reducible refine gate_store (t := 34) (p := 4) rfl ?_); refine store_whole rfl rfl rfl (w.heap.size + 1 + 1) 34 _ #[.string a.src, .string b.dst, .slice A4 (callG ⟨a.src, b.dst, comp (tabC a.arcs) (tabC b.arcs)⟩).arcs.length c4] (by rfl) (by rfl) (blk_below HZ.out HB3.out) (by kernel_rfl) rfl (by simp [Value.oneCell']) ?_))
        refine bodyPost_ret (v := .tuple #[.agg #[.string a.src, .string b.dst, .slice A4 (callG ⟨a.src, b.dst, comp (tabC a.arcs) (tabC b.arcs)⟩).arcs.length c4], .int .i64 0]) (results_cell2 rfl _ (by rfl) (setRow_at _ (w.heap.size + 1 + 1) #[.string a.src, .string b.dst, .slice A4 (callG ⟨a.src, b.dst, comp (tabC a.arcs) (tabC b.arcs)⟩).arcs.length c4] _ 34 (blk_below HZ.out HB3.out)) rfl Try.underlying34 (by kernel_rfl) (by rfl)) rfl ?_
        exact ⟨_, by rw [HR.out], by rw [HR.out]; exact ⟨_, rfl, R_row HR4.out (blk_below HZ.out HB3.out) (by decide) _⟩, row_step HB0.out HB3.out (by omega)⟩
      · have HR := Aside0.mk (HF.trans (if_neg (fun h => he h.2.2)))
        have e2 : (a.dst.toList == b.src.toList) = false := beq_eq_false_iff_ne.mpr (fun e => he (bytes_inj e))
        have e1 : (a.dst == b.src) = false := (beq_toListBytes _ _).trans e2
        have n1 : (a.dst != b.src) = true := by rw [bne, e1]; rfl
        clear HF hva hvb ha hb he
        go_enter Try.func25, Try.ntmps25
        go_wp2_with (first | (go_at_call 48; refine (HVA.out _ HB0.out).mono ?_; rintro e w1 ⟨rfl, hb1⟩; have HB1 := Aside0.mk hb1; clear HVA; obtain ⟨y0, y1, y2⟩ := Blk.cells (HCB.out.go hb1); obtain ⟨x0, x1, x2⟩ := Blk.cells (HCA.out.go hb1); clear hb1) | (go_at_call 48; refine (HVB.out _ (below_step HB0.out HB1.out)).mono ?_; rintro e w2 ⟨rfl, hb2⟩; have HB2 := Aside0.mk (below_step HB1.out hb2); clear HVB y0 y1 y2 x0 x1 x2; obtain ⟨y0, y1, y2⟩ := Blk.cells (HCB.out.go HB2.out); obtain ⟨x0, x1, x2⟩ := Blk.cells (HCA.out.go HB2.out); clear hb2) | ((with_reducible refine gate_store (t := 34) (p := 4) rfl ?_); refine store_whole rfl rfl rfl (w.heap.size + 1 + 1) 34 _ #[.string ⟨#[]⟩, .string ⟨#[]⟩, .slice none 0 0] (by rfl) (by rfl) (blk_below HZ.out HB2.out) (by kernel_rfl) rfl (by simp [Value.oneCell']) ?_))
        refine bodyPost_ret (v := .tuple #[.agg #[.string ⟨#[]⟩, .string ⟨#[]⟩, .slice none 0 0], .int .i64 4]) (results_cell2 rfl _ (by rfl) (setRow_at _ (w.heap.size + 1 + 1) #[.string ⟨#[]⟩, .string ⟨#[]⟩, .slice none 0 0] _ 34 (blk_below HZ.out HB2.out)) rfl Try.underlying34 (by kernel_rfl) (by rfl)) rfl ?_
        exact ⟨_, by rw [HR.out], by rw [HR.out]; exact ⟨_, rfl, Kd.R_nil _ _ _ _ _⟩, row_step HB0.out HB2.out (by omega)⟩
/-- The two boxes. -/
structure By (w W : World) (a b : Cl) (A B : Option Addr) (p q : Nat) : Prop where
  below : Below w.heap.size w W
  h0 : Blk W w.heap.size a A p
  h1 : Blk W (w.heap.size + 1) b B q
theorem By.go {w W W2 : World} {a b : Cl} {A B : Option Addr} {p q : Nat} (t : By w W a b A B p q) (h : Below W.heap.size W W2) : By w W2 a b A B p q := ⟨below_step t.below h, t.h0.go h, t.h1.go h⟩
theorem By.mk0 (w : World) (a b : Cl) (A B : Option Addr) (p q : Nat) : By w ((w.alloc (.cells #[.string a.src, .string a.dst, .slice A a.arcs.length p] 34)).alloc (.cells #[.string b.src, .string b.dst, .slice B b.arcs.length q] 34)) a b A B p q := by
  have st : ∀ (W : World) (o : Obj), Below W.heap.size W (W.alloc o) := fun W o => below_alloc (Below.refl _ _) o
  refine ⟨below_step (st _ _) (st _ _), blk_below (blk_new w _) (st _ _), ?_⟩
  have h1 := blk_new (w.alloc (.cells #[.string a.src, .string a.dst, .slice A a.arcs.length p] 34)) (.cells #[.string b.src, .string b.dst, .slice B b.arcs.length q] 34)
  rw [World.size_alloc] at h1
  exact h1
set_option maxHeartbeats 4000000 in
set_option maxRecDepth 100000 in
theorem composes_calls (A : Option Addr) (p : Nat) (a : Cl) (B : Option Addr) (q : Nat) (b : Cl) (w : World) (hna : a.arcs.length ≤ p) (ha : kAc.C w A a.arcs.length a.arcs) (hnb : b.arcs.length ≤ q) (hb : kAc.C w B b.arcs.length b.arcs) :
    Calls Try.prog 7 #[.agg #[.string a.src, .string a.dst, .slice A a.arcs.length p], .agg #[.string b.src, .string b.dst, .slice B b.arcs.length q]] w fun e w' => e = .returned (.bool true) ∧ Below w.heap.size w w' := by
  have HT0 := Aside0.mk (By.mk0 w a b A B p q)
  have HXa := Aside0.mk (fun W => bigCall_calls A p a W)
  have HXb := Aside0.mk (fun W => bigCall_calls B q b W)
  cases h1 : bigC a with
  | true =>
    rw [h1] at HXa
    clear h1 ha hb hna hnb
    go_enter Try.func7, Try.ntmps7
    go_wp2_with (first | (go_at_call 17; refine (HXa.out _).mono ?_; rintro e w1 ⟨rfl, hb1⟩; have HT1 := Aside0.mk (HT0.out.go hb1); clear hb1 HXa) | (go_at_call 12; refine (awake_calls _).mono ?_; rintro e wz ⟨rfl, hbz⟩; have HZ := Aside0.mk (below_step HT1.out.below hbz); clear hbz))
    go_ret
    exact ⟨rfl, HZ.out⟩
  | false =>
  rw [h1] at HXa
  cases h2 : bigC b with
  | true =>
    rw [h2] at HXb
    clear h1 h2 ha hb hna hnb
    go_enter Try.func7, Try.ntmps7
    go_wp2_with (first | (go_at_call 17; refine (HXa.out _).mono ?_; rintro e w1 ⟨rfl, hb1⟩; have HT1 := Aside0.mk (HT0.out.go hb1); clear hb1 HXa; obtain ⟨y10, y11, y12⟩ := Blk.cells HT1.out.h1) | (go_at_call 17; refine (HXb.out _).mono ?_; rintro e w2 ⟨rfl, hb2⟩; have HT2 := Aside0.mk (HT1.out.go hb2); clear hb2 HXb y10 y11 y12) | (go_at_call 12; refine (awake_calls _).mono ?_; rintro e wz ⟨rfl, hbz⟩; have HZ := Aside0.mk (below_step HT2.out.below hbz); clear hbz))
    go_ret
    exact ⟨rfl, HZ.out⟩
  | false =>
  rw [h2] at HXb
  have HN := Aside0.mk (fun (W : World) (h : Below w.heap.size w W) => norm_calls A p a W (Kd.C_below ha h) (arcs_of h1))
  have HM := Aside0.mk (fun (W : World) (h : Below w.heap.size w W) => rnorm_calls A p a W (Kd.C_below ha h))
  have HP := Aside0.mk (fun (W : World) (h : Below w.heap.size w W) => comp_calls A B p q a b W (Kd.C_below ha h) (arcs_of h1) (Kd.C_below hb h) (arcs_of h2))
  have HS := Aside0.mk (fun (W : World) (h : Below w.heap.size w W) => rcomp_calls A B p q a b W (Kd.C_below ha h) (Kd.C_below hb h))
  clear h1 h2 ha hb hna hnb
  generalize normF a = r1 at HN HM
  generalize compF a b = r2 at HP HS
  obtain ⟨d1, z1⟩ := r1
  obtain ⟨d2, z2⟩ := r2
  dsimp only at HN HM HP HS
  go_enter Try.func7, Try.ntmps7
  go_wp2_with (first | (go_at_call 17; refine (HXa.out _).mono ?_; rintro e w1 ⟨rfl, hb1⟩; have HT1 := Aside0.mk (HT0.out.go hb1); clear hb1 HXa; obtain ⟨y10, y11, y12⟩ := Blk.cells HT1.out.h1) | (go_at_call 17; refine (HXb.out _).mono ?_; rintro e w2 ⟨rfl, hb2⟩; have HT2 := Aside0.mk (HT1.out.go hb2); clear hb2 HXb y10 y11 y12; obtain ⟨y00, y01, y02⟩ := Blk.cells HT2.out.h0) | (go_at_call 23; refine (HN.out _ HT2.out.below).mono ?_; rintro e w3 ⟨v3, rfl, ⟨u3, rfl, hr3⟩, hb3⟩; obtain ⟨D1, k1, ev3⟩ := Kd.R_slice hr3; subst ev3; have HR3 := Aside0.mk hr3; have HT3 := Aside0.mk (HT2.out.go hb3); clear hb3 hr3 HN; clear y00 y01 y02; obtain ⟨y00, y01, y02⟩ := Blk.cells (HT3.out.go (below_alloc (Below.refl _ _) (.cells #[.string d1.src, .string d1.dst, .slice D1 d1.arcs.length k1] 34))).h0) | (go_at_call 24; refine (HM.out _ (below_step HT3.out.below (below_alloc (Below.refl _ _) _))).mono ?_; rintro e w4 ⟨v4, rfl, ⟨u4, rfl, hr4⟩, hb4⟩; obtain ⟨D2, k2, ev4⟩ := Kd.R_slice hr4; subst ev4; have HB5 : Aside0 (Blk w4 w3.heap.size d1 D1 k1) := ⟨blk_below (blk_new w3 _) hb4⟩; have HT4 := Aside0.mk ((HT3.out.go (below_alloc (Below.refl _ _) _)).go hb4); have HQ1 := Aside0.mk (eqd_calls (W := w4) (A := D1) (B := D2) (cp := k1) (cq := k2) d1 (Kd.C_below (Kd.R_reads' HR3.out).2.2 (below_step (below_alloc (Below.refl _ _) _) hb4)) (Kd.R_reads' hr4).2.2); clear hb4 hr4 HM HR3; clear y00 y01 y02; obtain ⟨y00, y01, y02⟩ := Blk.cells (HT4.out.go (below_alloc (Below.refl _ _) (.cells #[.string d1.src, .string d1.dst, .slice D2 d1.arcs.length k2] 34))).h0; obtain ⟨y10, y11, y12⟩ := Blk.cells (HT4.out.go (below_alloc (Below.refl _ _) (.cells #[.string d1.src, .string d1.dst, .slice D2 d1.arcs.length k2] 34))).h1) | (go_at_call 18; refine (HP.out _ (below_step HT4.out.below (below_alloc (Below.refl _ _) _))).mono ?_; rintro e w5 ⟨v5, rfl, ⟨u5, rfl, hr5⟩, hb5⟩; obtain ⟨D3, k3, ev5⟩ := Kd.R_slice hr5; subst ev5; have HB7 : Aside0 (Blk w5 w4.heap.size d1 D2 k2) := ⟨blk_below (blk_new w4 _) hb5⟩; have HB5b := Aside0.mk ((HB5.out.go (below_alloc (Below.refl _ _) _)).go hb5); have HQ2 := Aside0.mk (fun W (h : Below w5.heap.size w5 W) => HQ1.out W (below_step (below_step ((below_alloc (Below.refl _ _) (.cells #[.string d1.src, .string d1.dst, .slice D2 d1.arcs.length k2] 34))) hb5) h)); have HR5 := Aside0.mk hr5; have HT5 := Aside0.mk ((HT4.out.go (below_alloc (Below.refl _ _) _)).go hb5); clear hb5 hr5 HP HB5 HQ1; clear y00 y01 y02 y10 y11 y12; obtain ⟨y00, y01, y02⟩ := Blk.cells (HT5.out.go (below_alloc (Below.refl _ _) (.cells #[.string d2.src, .string d2.dst, .slice D3 d2.arcs.length k3] 34))).h0; obtain ⟨y10, y11, y12⟩ := Blk.cells (HT5.out.go (below_alloc (Below.refl _ _) (.cells #[.string d2.src, .string d2.dst, .slice D3 d2.arcs.length k3] 34))).h1) | (go_at_call 25; refine (HS.out _ (below_step HT5.out.below (below_alloc (Below.refl _ _) _))).mono ?_; rintro e w6 ⟨v6, rfl, ⟨u6, rfl, hr6⟩, hb6⟩; obtain ⟨D4, k4, ev6⟩ := Kd.R_slice hr6; subst ev6; have HB9 : Aside0 (Blk w6 w5.heap.size d2 D3 k3) := ⟨blk_below (blk_new w5 _) hb6⟩; have HB5c := Aside0.mk ((HB5b.out.go (below_alloc (Below.refl _ _) _)).go hb6); have HB7c := Aside0.mk ((HB7.out.go (below_alloc (Below.refl _ _) _)).go hb6); have HQ3 := Aside0.mk (HQ2.out _ (below_step (below_step ((below_alloc (Below.refl _ _) (.cells #[.string d2.src, .string d2.dst, .slice D3 d2.arcs.length k3] 34))) hb6) (below_alloc (Below.refl _ _) (.cells #[.string d2.src, .string d2.dst, .slice D4 d2.arcs.length k4] 34)))); have HQ4 := Aside0.mk (eqd_calls (W := w6) (A := D3) (B := D4) (cp := k3) (cq := k4) d2 (Kd.C_below (Kd.R_reads' HR5.out).2.2 (below_step (below_alloc (Below.refl _ _) _) hb6)) (Kd.R_reads' hr6).2.2); have HT6 := Aside0.mk ((HT5.out.go (below_alloc (Below.refl _ _) _)).go hb6); have HB11 : Aside0 (Blk (w6.alloc (.cells #[.string d2.src, .string d2.dst, .slice D4 d2.arcs.length k4] 34)) w6.heap.size d2 D4 k4) := ⟨blk_new w6 _⟩; have HB9c := Aside0.mk (HB9.out.go (below_alloc (Below.refl _ _) (.cells #[.string d2.src, .string d2.dst, .slice D4 d2.arcs.length k4] 34))); clear hb6 hr6 HS HQ2 HR5; clear y00 y01 y02 y10 y11 y12; obtain ⟨y50, y51, y52⟩ := Blk.cells (HB5c.out.go (below_alloc (Below.refl _ _) (.cells #[.string d2.src, .string d2.dst, .slice D4 d2.arcs.length k4] 34))); obtain ⟨y70, y71, y72⟩ := Blk.cells (HB7c.out.go (below_alloc (Below.refl _ _) (.cells #[.string d2.src, .string d2.dst, .slice D4 d2.arcs.length k4] 34)))) | (go_at_call 19; refine HQ3.out.mono ?_; rintro e w7 ⟨rfl, hb7⟩; have HB8 := Aside0.mk hb7; clear HQ3; clear y50 y51 y52 y70 y71 y72; obtain ⟨y90, y91, y92⟩ := Blk.cells (HB9c.out.go hb7); obtain ⟨y110, y111, y112⟩ := Blk.cells (HB11.out.go hb7); clear hb7) | (go_at_call 19; refine (HQ4.out _ (below_step (below_alloc (Below.refl _ _) (.cells #[.string d2.src, .string d2.dst, .slice D4 d2.arcs.length k4] 34)) HB8.out)).mono ?_; rintro e w8 ⟨rfl, hb8⟩; have HBW := Aside0.mk (below_step HT6.out.below (below_step (below_alloc (Below.refl _ _) (.cells #[.string d2.src, .string d2.dst, .slice D4 d2.arcs.length k4] 34)) (below_step HB8.out hb8))); clear hb8 HQ4) | (go_at_call 12; refine (awake_calls _).mono ?_; rintro e wz ⟨rfl, hbz⟩; have HZ := Aside0.mk (below_step HBW.out hbz); clear hbz))
  go_ret
  exact ⟨rfl, HZ.out⟩
end Go.Proofs.Ytiepinfcndefhaa.S
